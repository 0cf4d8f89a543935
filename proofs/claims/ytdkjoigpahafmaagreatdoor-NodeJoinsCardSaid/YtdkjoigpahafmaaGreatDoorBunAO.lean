/- Texts NodA, StoD, NodB, NodC, StateM, RangeTwo, StoJ, PlainList, PlainAwake, LawT, StoE, StoG, StoF, KeepA, HasA, HasB, StoK, LawU in one. No conditions. -/
import Derived.Test.YtdkjoigpahafmaaGreatDoorBunAA
import Derived.Test.YtdkjoigpahafmaaGreatDoorBunAN
import Derived.Test.YtdkjoigpahafmaaGreatDoorBunAI
import Derived.Test.YtdkjoigpahafmaaGreatDoorBunAK
import Derived.RangeFuncWrites
import Derived.Test.YtdkjoigpahafmaaGreatDoorBunAD
import Derived.Sort.KeysCollected
import Derived.Test.YtdkjoigpahafmaaGreatDoorBunAL
import Derived.MapKept
import Derived.ChangeMaps4
import Derived.Test.YtdkjoigpahafmaaGreatDoorBunAJ

set_option linter.unusedSimpArgs false
set_option linter.unusedVariables false
set_option maxRecDepth 100000
set_option maxHeartbeats 16000000
namespace Go.Proofs.YtdkjoigpahafmaaGreatDoor
section
open Go Go.RowKit Go.Lib Go.Shelf
variable {w w1 w2 : World} {X X1 X2 : Dw} {S S1 S2 : Sd} {Y Y1 Y2 : Yw} {V V1 V2 : Sv}
structure Mt where
 floor : Nat
 cert : Nat
 at_ : Nat
 lease : Nat
def Mt.val (m : Mt) : Value := .agg #[.int .u64 (m.floor : Int), .int .u64 (m.cert : Int), .int .u64 (m.at_ : Int), .int .u64 (m.lease : Int)]
def Mt.cells (m : Mt) : List Value := [.int .u64 (m.floor : Int), .int .u64 (m.cert : Int), .int .u64 (m.at_ : Int), .int .u64 (m.lease : Int)]
namespace St
def meta_ (V : Sv) : Mt := ⟨V.M.v.floor, V.M.v.cert, V.M.v.at_, V.M.v.lease⟩
def sync (S : Sd) (V : Sv) : Sd × Sv × Nat :=
 if V.only = true then (S, V, 14) else
 if (S.sync V.nm).2 = 0 then ((S.sync V.nm).1, V, 0) else ((S.sync V.nm).1, { V with only := true }, (S.sync V.nm).2)
end St
theorem smeta_any (h : SvAt w X S Y V) (hn : V.M.v.files.length ≤ 10000) :
  Calls Tryz.prog 39 #[.pointer (some ⟨Y.s, 0, none⟩)] w fun e w' => e = .returned (St.meta_ V).val ∧ Below w.heap.size w w' := by
 have hb1 := (Below.refl w.heap.size w).alloc (Nat.le_refl _) (.cells #[.int .u64 0, .int .u64 0, .int .u64 0, .int .u64 0] 32)
 have hbx := BoxO.new w #[.int .u64 0, .int .u64 0, .int .u64 0, .int .u64 0] 32
 have h1 := h.below hb1
 have k1 := h1.box.cell 1
 simp only [Yw.cells, gE0, gE1] at k1
 have hv := gmview_any X.d h1.man h1.row.row (by rw [h1.plen]; exact hn)
 obtain ⟨v, hv0⟩ : ∃ v, v = V.M.v := ⟨_, rfl⟩
 unfold St.meta_ Mt.val
 rw [← hv0] at hv ⊢
 unfold Vw.val at hv
 have HV := Lib.hid hv
 have HB := Lib.hid (And.intro hb1 hbx)
 clear hv hv0 h h1 hb1 hbx
 go_enter Tryz.func39, Tryz.ntmps39
 go_wp2_with fail
 refine HV.out.mono ?_
 rintro e w2 ⟨A, c, rfl, _, hb2⟩
 have hbz := later_ HB.out.1 hb2
 have hx2 := HB.out.2.below hb2
 have hb3 := (Below.refl w2.heap.size w2).alloc (Nat.le_refl _) (.cells #[.int .i64 v.log, .slice A Y.P.n c, .int .u64 (v.floor : Int), .int .u64 (v.cert : Int), .int .u64 (v.at_ : Int), .int .u64 (v.lease : Int)] 134)
 have hbq := later_ hbz hb3
 have hx3 := hx2.below hb3
 have f0 := hx3.free 0
 have f1 := hx3.free 1
 have f2 := hx3.free 2
 have f3 := hx3.free 3
 have s0 := hx3.cell 0
 have s1 := hx3.cell 1
 have s2 := hx3.cell 2
 have s3 := hx3.cell 3
 simp only [gE0, gE1] at s0 s1 s2 s3
 have HQ := Lib.hid hbq
 clear HV HB hbz hx2 hb3 hbq hx3 hb2
 go_wp2
 refine bodyPost_ret (v := .agg #[.int .u64 (v.floor : Int), .int .u64 (v.cert : Int), .int .u64 (v.at_ : Int), .int .u64 (v.lease : Int)]) (by simp [results, go_sem, *]) rfl ⟨rfl, ?_⟩
 exact (((HQ.out.setCell (p := ⟨w.heap.size, 0, none⟩) (Nat.le_refl _) _).setCell (p := ⟨w.heap.size, 1, none⟩) (Nat.le_refl _) _).setCell (p := ⟨w.heap.size, 2, none⟩) (Nat.le_refl _) _).setCell (p := ⟨w.heap.size, 3, none⟩) (Nat.le_refl _) _
theorem sseriesS_any (h : SvAt w X S Y V) (hn : V.st.length ≤ 1000000) (s : Int) :
  Calls Tryz.prog 45 #[.pointer (some ⟨Y.s, 0, none⟩), .int .i64 s] w (JoinPost w (V.st.filter fun a => a.s == s)) := by
 have c5 := h.box.cell 5
 simp only [Yw.cells, gE0, gE1] at c5
 have HS := Lib.hid (sseries_any Y.A.a Y.A.n Y.A.c V.st s w (by rw [h.alen]; omega) h.st.now.row)
 clear h
 go_enter Tryz.func45, Tryz.ntmps45
 go_wp2_with fail
 refine HS.out.mono ?_
 rintro e w1 ⟨A', k, rfl, h1⟩
 have H1 := Lib.hid h1
 clear h1
 go_wp2
 go_ret
 exact ⟨A', k, rfl, H1.out⟩
theorem ssync_any (h : SvAt w X S Y V) (hnm : V.nm.length ≤ 1000) :
  Calls Tryz.prog 107 #[.pointer (some ⟨Y.s, 0, none⟩)] w (SvPostA X Y w (St.sync S V)) := by
 obtain ⟨R, hR⟩ : ∃ R, R = St.sync S V := ⟨_, rfl⟩
 have hR0 := hR
 unfold St.sync at hR
 rw [← hR0]
 clear hR0
 have c10 := h.box.cell 10
 have c2 := h.box.cell 2
 simp only [Yw.cells, gE0, gE1] at c10 c2
 have HH := Lib.hid h
 cases ho : V.only with
 | true =>
  rw [if_pos ho] at hR
  rw [ho] at c10
  have HZ : Hid (SvPostA X Y w R (.returned (.int .i64 14)) w) := Lib.hid (by rw [hR]; exact ⟨rfl, SvUpdA.refl h⟩)
  clear hR ho h
  go_enter Tryz.func107, Tryz.ntmps107
  go_wp2
  go_ret
  exact HZ.out
 | false =>
 rw [if_neg (by simp [ho])] at hR
 rw [ho] at c10
 have hls := lsync_any X S Y.g V.nm V.sz V.ct w hnm h.dm h.log (h.apart.x _ (Yw.mem_foot.2 (.inr (.inr (.inl rfl)))))
 obtain ⟨r, hr⟩ : ∃ r, r = S.sync V.nm := ⟨_, rfl⟩
 rw [← hr] at hls hR
 obtain ⟨S1, er⟩ := r
 simp only at hls hR
 have HLS := Lib.hid hls
 have HR := Lib.hid hR
 clear hls hR hr h
 go_enter Tryz.func107, Tryz.ntmps107
 go_wp2_with fail
 refine HLS.out.mono ?_
 rintro e w1 ⟨rfl, hu⟩
 obtain ⟨X1, e1, hs1, hc1, hf1⟩ := HH.out.disk hu
 by_cases h0 : er = 0
 ·subst h0
  have HZ : Hid (SvPostA X Y w R (.returned (.int .i64 0)) w1) := Lib.hid (by
   have := HR.out
   rw [if_pos rfl] at this
   rw [this]
   exact ⟨rfl, X1, Y, e1, rfl, hs1, hc1, hf1, .inl rfl⟩)
  clear hs1 hc1 hf1 hu e1
  go_wp2
  go_ret
  exact HZ.out
 ·have e3 : ((er : Int) == 0) = false := by simp; omega
  have hcl := sclose_any hs1 er
  have HCL := Lib.hid hcl
  have HU := Lib.hid (And.intro e1 (And.intro hc1 hf1))
  clear hcl hs1 hc1 hf1 hu e1
  go_wp2_with fail
  refine HCL.out.mono ?_
  rintro e w2 ⟨rfl, hs2, hc2⟩
  have HZ : Hid (SvPostA X Y w R (.returned (.int .i64 (er : Int))) w2) := Lib.hid (by
   have := HR.out
   rw [if_neg h0] at this
   rw [this]
   exact ⟨rfl, X1, Y, HU.out.1, rfl, hs2, HU.out.2.1.trans hc2 HU.out.2.2, HU.out.2.2, .inl rfl⟩)
  clear hs2 hc2
  go_wp2
  go_ret
  exact HZ.out
end
section
open Go Go.RowKit Go.Lib Go.Shelf
variable {w w1 w2 : World} {X X1 X2 : Dw} {S S1 S2 : Sd} {Y Y1 Y2 : Yw} {V V1 V2 : Sv}
def SgUpd (X : Dw) (Y : Yw) (w w' : World) (S' : Sd) (V' : Sv) : Prop := ∃ X' P', X'.d = X.d ∧ SvAt w' X' S' { Y with P := P' } V' ∧ Chg (XY X Y) w w' ∧ (∀ g ∈ XY X' Y, g ∈ XY X Y ∨ w.heap.size ≤ g) ∧ (P' = Y.P ∨ ∀ a, P'.a = some a → w.heap.size ≤ a.block)
def SvUpdB (B : Nat) (X : Dw) (Y : Yw) (w w1 : World) (S1 : Sd) (V1 : Sv) : Prop := ∃ X1 Y1, X1.d = X.d ∧ Y1.s = Y.s ∧ SvAt w1 X1 S1 Y1 V1 ∧ Chg (XY X Y) w w1 ∧ ∀ g ∈ XY X1 Y1, g ∈ XY X Y ∨ B ≤ g
theorem SvUpdB.to (h : SvUpdB w.heap.size X Y w w1 S V) : SvUpd X Y w w1 S V := h
theorem SvUpdB.trans {B : Nat} (e1 : X1.d = X.d) (e2 : Y1.s = Y.s) (c : Chg (XY X Y) w w1) (hf : ∀ g ∈ XY X1 Y1, g ∈ XY X Y ∨ w.heap.size ≤ g) (hB : B ≤ w.heap.size) (k : SvUpdB B X1 Y1 w1 w2 S2 V2) : SvUpdB B X Y w w2 S2 V2 := by
 obtain ⟨X2, Y2, e3, e4, h, c2, hf2⟩ := k
 refine ⟨X2, Y2, e3.trans e1, e4.trans e2, h, c.trans c2 hf, fun g hg => ?_⟩
 rcases hf2 g hg with h1 | h1
 ·exact (hf g h1).imp id (Nat.le_trans hB)
 ·exact .inr h1
end
section
open Go Go.RowKit Go.Lib Go.Shelf
variable {w w1 w2 : World} {X X1 X2 : Dw} {S S1 S2 : Sd} {Y Y1 Y2 : Yw} {V V1 V2 : Sv}
def St.setMeta (S : Sd) (V : Sv) (m : Mt) : Sd × Sv × Nat := if V.only = true then (S, V, 14) else St.saved S V ⟨[], [], 0, m.floor, m.cert, m.at_, m.lease⟩
theorem SgUpd.up {w0 : World} (hb : Below w0.heap.size w0 w) (h : SgUpd X Y w w1 S1 V1) : SvUpdA X Y w0 w1 S1 V1 := let ⟨X', P', a, b, c, d, _⟩ := h; ⟨X', { Y with P := P' }, a, rfl, b, (Chg.of_below hb _).trans c (fun g hg => .inl hg), fun g hg => (d g hg).imp (fun z => z) (Nat.le_trans hb.size), .inl rfl⟩
end
section
open Go Go.RowKit Go.Lib Go.Shelf
variable {w w1 w2 : World} {X X1 X2 : Dw} {S S1 S2 : Sd} {Y Y1 Y2 : Yw} {V V1 V2 : Sv} {G F : List Nat}
def NoInt (w : World) (G : List Nat) : Prop := ∀ a : Addr, a.block ∈ G → ∀ v, w.cell? a = some v → ∃ b, v = .bool b
def noBool (xs : List Value) : Prop := ∀ v ∈ xs, ∀ b, v ≠ .bool b
theorem itc_noBool (l : List It) : noBool (itc l) := by
 intro v hv b e
 subst e
 unfold itc at hv
 rw [List.mem_flatMap] at hv
 obtain ⟨x, _, h⟩ := hv
 simp [It.cells] at h
theorem fcells_noBool (l : List (Int × Int)) : noBool (fcells l) := by
 intro v hv b e
 subst e
 unfold fcells at hv
 rw [List.mem_flatMap] at hv
 obtain ⟨x, _, h⟩ := hv
 simp at h
theorem row_tick {B n size : Nat} {A : Option Addr} {xs : List Value} (h : Row B w A n size xs) (hx : noBool xs) (hn : NoInt w G) (c : Chg G w w1) (hB : B ≤ w.heap.size) : Row B w1 A n size xs :=
 row_chg c h hB fun j hj a ha hm => by
  obtain ⟨a', e, _, hc⟩ := h.cell j hj
  rw [ha] at e
  injection e with e
  subst e
  obtain ⟨b, hb⟩ := hn _ (by rw [add_block]; exact hm) _ hc
  exact hx _ (List.getElem_mem hj) b hb
def back (w w1 : World) (G : List Nat) : World := { w1 with heap := w1.heap.mapIdx fun i o => if i ∈ G then (w.heap[i]?).getD o else o }
theorem back_in {k : Nat} (hk : k ∈ G) (hw : k < w.heap.size) (h1 : k < w1.heap.size) : (back w w1 G).heap[k]? = w.heap[k]? := by
 unfold back
 simp only [Array.getElem?_mapIdx, Array.getElem?_eq_getElem h1, Option.map_some, if_pos hk, Array.getElem?_eq_getElem hw, Option.getD_some]
theorem back_out {k : Nat} (hk : k ∉ G) : (back w w1 G).heap[k]? = w1.heap[k]? := by
 unfold back
 simp only [Array.getElem?_mapIdx, if_neg hk]
 cases w1.heap[k]? <;> rfl
theorem back_size : (back w w1 G).heap.size = w1.heap.size := by simp [back]
theorem Fixed.tick {A : Option Addr} {n c : Nat} {l : List It} (h : Fixed F w fun w => Its 0 w A n c l) (hn : NoInt w G) (k : Chg G w w1) (hG : ∀ g ∈ G, g < w.heap.size) : Fixed F w1 fun w => Its 0 w A n c l := fun w2 k2 => by
 have hsz := Nat.le_trans k.size k2.size
 have hb : ∀ g ∈ G, (back w w2 G).heap[g]? = w.heap[g]? := fun g hg => back_in hg (hG g hg) (Nat.lt_of_lt_of_le (hG g hg) hsz)
 have h1 := h (back w w2 G) ⟨k2.os.trans k.os, k2.tape.trans k.tape, k2.output.trans k.output, by rw [back_size]; exact hsz, fun g hg hF => by
  by_cases hm : g ∈ G
  ·exact hb g hm
  ·rw [back_out hm, k2.block g (Nat.lt_of_lt_of_le hg k.size) hF, k.block g hg hm]⟩
 refine ⟨?_, h1.nc, h1.cm, h1.low⟩
 have hr := h1.row
 rw [back_size] at hr
 exact row_tick hr (itc_noBool l) (fun a ha v hv => hn a ha v (by rw [← hv]; exact (World.cell?_of_block (hb _ ha)).symm)) (w1 := w2) (G := G) ⟨rfl, rfl, rfl, by rw [back_size]; exact Nat.le_refl _, fun g _ hm => (back_out hm).symm⟩ (by rw [back_size]; exact Nat.le_refl _)
theorem TabsAt.none {T : Sl} {q : List Tq} (h : TabsAt w T q []) (w1 : World) : TabsAt w1 T q [] := by
 obtain ⟨h1, h2, h3, h4, h5, h6⟩ := h
 have hq : q = [] := List.map_eq_nil_iff.1 h1
 subst hq
 exact ⟨rfl, ⟨h2.len, fun j hj => absurd hj (by simp [hcells])⟩, h3, h4, h5, fun p hp => by cases hp⟩
theorem SvAt.tick (h : SvAt w X S Y V) (ht : V.tabs = []) (hn : NoInt w G) (c : Chg G w w1) (hG : ∀ g ∈ G, g ∉ XY X Y ∧ NG ≤ g ∧ g < w.heap.size) : SvAt w1 X S Y V := by
 have hf : ∀ g ∈ Y.foot, g ∉ G := fun g h1 h2 => (hG g h2).1 (List.mem_append_right _ h1)
 refine ⟨h.dm.chg c (fun g hg => ⟨fun hm => (hG g hg).1 (List.mem_append_left _ hm), (hG g hg).2.1⟩), h.box.chg c (hf _ (Yw.mem_foot.2 (.inl rfl))), h.man.chg c (hf _ (Yw.mem_foot.2 (.inr (.inl rfl)))), ?_, h.pout, h.log.chg c (hf _ (Yw.mem_foot.2 (.inr (.inr (.inl rfl))))), h.mem.chg c (fun g hg => hf g (Yw.mem_foot.2 ?_)), h.its, ?_, h.st.tick hn c (fun g hg => (hG g hg).2.2), h.apart, h.ng⟩
 ·exact ⟨(row_tick h.row.row (fcells_noBool _) hn c (Nat.le_refl _)).up c.size, h.row.nc, h.row.cm, h.row.nb, h.row.away⟩
 ·rcases List.mem_cons.1 hg with rfl | hg
  ·exact .inr (.inr (.inr (.inl rfl)))
  ·exact .inr (.inr (.inr (.inr hg)))
 ·have := h.tabs.now
  rw [ht] at this ⊢
  exact fun w2 _ => this.none w2
structure NdAt (w : World) (X : Dw) (S : Sd) (Y : Yw) (V : Sv) (nb : Nat) (id : Int) (now grace : Nat) : Prop where
 at_ : SvAt w X S Y V
 box : BoxO w 100 nb [.int .i64 id, .pointer (some ⟨Y.s, 0, none⟩), .int .u64 (now : Int), .int .u64 (grace : Int)]
 out : nb ∉ XY X Y
section
variable {nb now grace : Nat} {id : Int}
theorem NdAt.below (h : NdAt w X S Y V nb id now grace) (hb : Below w.heap.size w w1) : NdAt w1 X S Y V nb id now grace := ⟨h.at_.below hb, h.box.below hb, h.out⟩
theorem NdAt.tick (h : NdAt w X S Y V nb id now grace) (ht : V.tabs = []) (hn : NoInt w G) (c : Chg G w w1) (hG : ∀ g ∈ G, g ∉ XY X Y ∧ NG ≤ g ∧ g < w.heap.size ∧ g ≠ nb) : NdAt w1 X S Y V nb id now grace :=
 ⟨h.at_.tick ht hn c (fun g hg => ⟨(hG g hg).1, (hG g hg).2.1, (hG g hg).2.2.1⟩), h.box.chg c (fun hm => (hG nb hm).2.2.2 rfl), h.out⟩
def NdUpd (X : Dw) (Y : Yw) (w w1 : World) (S1 : Sd) (V1 : Sv) (nb : Nat) (id : Int) (now grace : Nat) : Prop := ∃ X1 Y1, X1.d = X.d ∧ Y1.s = Y.s ∧ NdAt w1 X1 S1 Y1 V1 nb id now grace ∧ Chg (XY X Y) w w1 ∧ (∀ g ∈ XY X1 Y1, g ∈ XY X Y ∨ w.heap.size ≤ g) ∧ NewA w Y Y1
theorem NdAt.upd (h : NdAt w X S Y V nb id now grace) (hu : SvUpdA X Y w w1 S1 V1) : NdUpd X Y w w1 S1 V1 nb id now grace := by
 obtain ⟨X1, Y1, e, es, h1, c, f, na⟩ := hu
 refine ⟨X1, Y1, e, es, ⟨h1, by rw [es]; exact h.box.chg c h.out, fun hm => ?_⟩, c, f, na⟩
 rcases f nb hm with q | q
 ·exact h.out q
 ·have := h.box.lt
  omega
theorem NdUpd.same (h : NdAt w X S Y V nb id now grace) (hb : Below w.heap.size w w1) : NdUpd X Y w w1 S V nb id now grace := ⟨X, Y, rfl, rfl, h.below hb, Chg.of_below hb _, fun _ hg => .inl hg, .inl rfl⟩
theorem NdUpd.trans (e1 : X1.d = X.d) (e2 : Y1.s = Y.s) (c : Chg (XY X Y) w w1) (hf : ∀ g ∈ XY X1 Y1, g ∈ XY X Y ∨ w.heap.size ≤ g) (hn : NewA w Y Y1) (k : NdUpd X1 Y1 w1 w2 S2 V2 nb id now grace) : NdUpd X Y w w2 S2 V2 nb id now grace := by
 obtain ⟨X2, Y2, e3, e4, h, c2, hf2, n2⟩ := k
 refine ⟨X2, Y2, e3.trans e1, e4.trans e2, h, c.trans c2 hf, fun g hg => ?_, hn.trans n2 c.size⟩
 rcases hf2 g hg with h1 | h1
 ·exact hf g h1
 ·exact .inr (Nat.le_trans c.size h1)
theorem NdUpd.low {B : Nat} (k : NdUpd X Y w1 w2 S2 V2 nb id now grace) (hb : Below w.heap.size w w1) : NdUpd X Y w w2 S2 V2 nb id now grace := k.trans rfl rfl (Chg.of_below hb _) (fun _ hg => .inl hg) (.inl rfl)
end
structure Nrm (V : Sv) : Prop where
 tabs : V.tabs = []
 st : Stt V.st
 len : V.st.length ≤ 1500
 sz : V.sz ≤ 1000000000
 ct : V.ct ≤ 1000000
 mem : V.mem.length ≤ 100000
 nm : V.nm.length ≤ 1000
 files : V.M.v.files.length ≤ 40
 count : V.M.count ≤ 1000000
 name : V.M.name.length ≤ 1000
end
section
open Go Go.RowKit Go.Lib
def upto (l : List It) (v : Nat) : List It := l.filter fun a => decide (a.v ≤ v)
theorem iequal_any (A : Option Addr) (n c : Nat) (a : List It) (B : Option Addr) (m d : Nat) (b : List It) (w : World) (hn : n ≤ 1000000) (hm : m ≤ 1000000) (ra : Row w.heap.size w A n 5 (itc a)) (rb : Row w.heap.size w B m 5 (itc b)) :
  Calls Tryz.prog 175 #[.slice A n c, .slice B m d] w fun e w' => e = .returned (.bool (decide (a = b))) ∧ Below w.heap.size w w' := by
 have hna := ra.itlen
 have hmb := rb.itlen
 obtain ⟨r, hr⟩ : ∃ r, r = decide (a = b) := ⟨_, rfl⟩
 rw [← hr]
 by_cases hnm : n = m
 ·subst hnm
  have HR := Lib.hid hr
  clear hr
  go_enter Tryz.func175, Tryz.ntmps175
  go_wp2
  go_loopw [13] (fun i wr => ∃ k : Nat, k ≤ n ∧ i = .int .i64 (k : Int) ∧ Hid (a.take k = b.take k) ∧ Below w.heap.size w wr) (fun i _ => n - (intOf i).toNat)
  case atStart => exact ⟨0, Nat.zero_le _, rfl, Lib.hid rfl, Below.refl _ _⟩
  case round =>
   obtain ⟨k, hk, rfl, HE, hbl⟩ := hrel
   by_cases hlt : k < n
   ·obtain ⟨p, hl, rfl, hbk, hd⟩ := (ra.below hbl).it hlt
    obtain ⟨p2, hl2, rfl, hbk2, hd2⟩ := (rb.below hbl).it hlt
    have hte : a.take (k + 1) = a.take k ++ [a[k]] := List.take_succ_eq_append_getElem hl
    have htf : b.take (k + 1) = b.take k ++ [b[k]] := List.take_succ_eq_append_getElem hl2
    have hne : a[k] ≠ b[k] → a ≠ b := fun h e => by subst e; exact h rfl
    generalize a[k] = x at *
    generalize b[k] = y at *
    have hnq := it_neq x y
    have hkc : ∀ w', Below wr.heap.size wr w' → (w'.cell? (p.add (k * 5)) = some (.int .i64 x.s) ∧ w'.cell? ⟨(p.add (k * 5)).block, (p.add (k * 5)).off + 1, none⟩ = some (.int .i64 x.k) ∧ w'.cell? ⟨(p.add (k * 5)).block, (p.add (k * 5)).off + 2, none⟩ = some (.int .u64 (x.t : Int)) ∧ w'.cell? ⟨(p.add (k * 5)).block, (p.add (k * 5)).off + 3, none⟩ = some (.int .u64 (x.v : Int)) ∧ w'.cell? ⟨(p.add (k * 5)).block, (p.add (k * 5)).off + 4, none⟩ = some (.int .i64 x.x)) ∧ w'.cell? (p2.add (k * 5)) = some (.int .i64 y.s) ∧ w'.cell? ⟨(p2.add (k * 5)).block, (p2.add (k * 5)).off + 1, none⟩ = some (.int .i64 y.k) ∧ w'.cell? ⟨(p2.add (k * 5)).block, (p2.add (k * 5)).off + 2, none⟩ = some (.int .u64 (y.t : Int)) ∧ w'.cell? ⟨(p2.add (k * 5)).block, (p2.add (k * 5)).off + 3, none⟩ = some (.int .u64 (y.v : Int)) ∧ w'.cell? ⟨(p2.add (k * 5)).block, (p2.add (k * 5)).off + 4, none⟩ = some (.int .i64 y.x) := fun w' hb => by
     have h1 := hd.below (B := wr.heap.size) (w' := w') (Nat.lt_of_lt_of_le hbk hbl.size) hb
     have h2 := hd2.below (B := wr.heap.size) (w' := w') (Nat.lt_of_lt_of_le hbk2 hbl.size) hb
     exact ⟨⟨h1.c0, h1.c1, h1.c2, h1.c3, h1.c4⟩, h2.c0, h2.c1, h2.c2, h2.c3, h2.c4⟩
    have KC := Lib.hid hkc
    have HNE := Lib.hid hne
    have HT := Lib.hid (And.intro hte htf)
    have hwk : IntKind.i64.wrap (k : Int) = (k : Int) := IntWalk.i64_in _ (by omega)
    have hkn : (k : Int) < (n : Int) := by omega
    clear hkc hne hte htf hd hd2 hnq
    by_cases hxy : x = y
    ·have H1 := Lib.hid (show a.take (k + 1) = b.take (k + 1) by rw [HT.out.1, HT.out.2, HE.out, hxy])
     subst hxy
     go_wp2_with fail
     refine wp_region_held_drew (S := fun w' => Below wr.heap.size wr w') rfl (below_drew (Below.refl _ _)) (fun hSw => ?_)
     refine wpT (i := 0) (v := ?vea0) ?hea0 hSw ?kea0
     case hea0 => (intro w hSw; (obtain ⟨⟨c0, c1, c2, c3, c4⟩, d0, d1, d2, d3, d4⟩ := KC.out w hSw); go_simp; try (with_reducible rfl))
     go_simp
     refine wpT (i := 1) (v := ?vea1) ?hea1 hSw ?kea1
     case hea1 => (intro w hSw; (obtain ⟨⟨c0, c1, c2, c3, c4⟩, d0, d1, d2, d3, d4⟩ := KC.out w hSw); go_simp; try (with_reducible rfl))
     go_simp
     refine wpT (i := 2) (v := ?vea2) ?hea2 hSw ?kea2
     case hea2 => (intro w hSw; (obtain ⟨⟨c0, c1, c2, c3, c4⟩, d0, d1, d2, d3, d4⟩ := KC.out w hSw); go_simp; try (with_reducible rfl))
     go_simp
     refine wpT (i := 3) (v := ?vea3) ?hea3 hSw ?kea3
     case hea3 => (intro w hSw; (obtain ⟨⟨c0, c1, c2, c3, c4⟩, d0, d1, d2, d3, d4⟩ := KC.out w hSw); go_simp; try (with_reducible rfl))
     go_simp
     refine wpT (i := 4) (v := ?vea4) ?hea4 hSw ?kea4
     case hea4 => (intro w hSw; (obtain ⟨⟨c0, c1, c2, c3, c4⟩, d0, d1, d2, d3, d4⟩ := KC.out w hSw); go_simp; try (with_reducible rfl))
     go_simp
     refine wpT (i := 5) (v := ?vea5) ?hea5 hSw ?kea5
     case hea5 => (intro w hSw; (obtain ⟨⟨c0, c1, c2, c3, c4⟩, d0, d1, d2, d3, d4⟩ := KC.out w hSw); go_simp; try (with_reducible rfl))
     go_simp
     refine wpT (i := 6) (v := ?vea6) ?hea6 hSw ?kea6
     case hea6 => (intro w hSw; (obtain ⟨⟨c0, c1, c2, c3, c4⟩, d0, d1, d2, d3, d4⟩ := KC.out w hSw); go_simp; try (with_reducible rfl))
     go_simp
     refine wpT (i := 7) (v := ?vea7) ?hea7 hSw ?kea7
     case hea7 => (intro w hSw; (obtain ⟨⟨c0, c1, c2, c3, c4⟩, d0, d1, d2, d3, d4⟩ := KC.out w hSw); go_simp; try (with_reducible rfl))
     go_simp
     refine wpT (i := 8) (v := ?vea8) ?hea8 hSw ?kea8
     case hea8 => (intro w hSw; (obtain ⟨⟨c0, c1, c2, c3, c4⟩, d0, d1, d2, d3, d4⟩ := KC.out w hSw); go_simp; try (with_reducible rfl))
     go_simp
     refine wpAnyH_done (by kernel_rfl) ?_ _
     have hby := hbl.trans (hSw.mono hbl.size)
     clear hSw KC
     go_wp2
     go_roundw
     case rel => exact ⟨k + 1, by omega, by go_num, H1.out, hby⟩
     case measure => simp [intOf]; omega
    ·have hrf : r = false := by
      rw [HR.out]
      simpa using HNE.out hxy
     have H1 := Lib.hid hrf
     have HIF := Lib.hid (fun (α : Type) (A B : α) => it_if hxy A B)
     clear hrf hxy
     go_wp2_with fail
     refine wp_region_held_drew (S := fun w' => Below wr.heap.size wr w') rfl (below_drew (Below.refl _ _)) (fun hSw => ?_)
     refine wpT (i := 0) (v := ?veb0) ?heb0 hSw ?keb0
     case heb0 => (intro w hSw; (obtain ⟨⟨c0, c1, c2, c3, c4⟩, d0, d1, d2, d3, d4⟩ := KC.out w hSw; have hif := HIF.out); go_simp; try (with_reducible rfl))
     go_simp
     refine wpT (i := 1) (v := ?veb1) ?heb1 hSw ?keb1
     case heb1 => (intro w hSw; (obtain ⟨⟨c0, c1, c2, c3, c4⟩, d0, d1, d2, d3, d4⟩ := KC.out w hSw; have hif := HIF.out); go_simp; try (with_reducible rfl))
     go_simp
     refine wpT (i := 2) (v := ?veb2) ?heb2 hSw ?keb2
     case heb2 => (intro w hSw; (obtain ⟨⟨c0, c1, c2, c3, c4⟩, d0, d1, d2, d3, d4⟩ := KC.out w hSw; have hif := HIF.out); go_simp; try (with_reducible rfl))
     go_simp
     refine wpT (i := 3) (v := ?veb3) ?heb3 hSw ?keb3
     case heb3 => (intro w hSw; (obtain ⟨⟨c0, c1, c2, c3, c4⟩, d0, d1, d2, d3, d4⟩ := KC.out w hSw; have hif := HIF.out); go_simp; try (with_reducible rfl))
     go_simp
     refine wpT (i := 4) (v := ?veb4) ?heb4 hSw ?keb4
     case heb4 => (intro w hSw; (obtain ⟨⟨c0, c1, c2, c3, c4⟩, d0, d1, d2, d3, d4⟩ := KC.out w hSw; have hif := HIF.out); go_simp; try (with_reducible rfl))
     go_simp
     refine wpT (i := 5) (v := ?veb5) ?heb5 hSw ?keb5
     case heb5 => (intro w hSw; (obtain ⟨⟨c0, c1, c2, c3, c4⟩, d0, d1, d2, d3, d4⟩ := KC.out w hSw; have hif := HIF.out); go_simp; try (with_reducible rfl))
     go_simp
     refine wpT (i := 6) (v := ?veb6) ?heb6 hSw ?keb6
     case heb6 => (intro w hSw; (obtain ⟨⟨c0, c1, c2, c3, c4⟩, d0, d1, d2, d3, d4⟩ := KC.out w hSw; have hif := HIF.out); go_simp; try (with_reducible rfl))
     go_simp
     refine wpT (i := 7) (v := ?veb7) ?heb7 hSw ?keb7
     case heb7 => (intro w hSw; (obtain ⟨⟨c0, c1, c2, c3, c4⟩, d0, d1, d2, d3, d4⟩ := KC.out w hSw; have hif := HIF.out); go_simp; try (with_reducible rfl))
     go_simp
     refine wpT (i := 8) (v := ?veb8) ?heb8 hSw ?keb8
     case heb8 => (intro w hSw; (obtain ⟨⟨c0, c1, c2, c3, c4⟩, d0, d1, d2, d3, d4⟩ := KC.out w hSw; have hif := HIF.out); go_simp; try (with_reducible rfl))
     go_simp
     refine wpAnyH_done (by kernel_rfl) ?_ _
     have hby := hbl.trans (hSw.mono hbl.size)
     clear hSw KC
     go_wp2
     go_ret
     exact ⟨ret_bo H1.out.symm, hby⟩
   ·have hall : r = true := by
     have := HE.out
     rw [List.take_of_length_le (by omega), List.take_of_length_le (by omega)] at this
     rw [HR.out, this]
     simp
    have H1 := Lib.hid hall
    clear hall
    go_wp2
    go_ret
    exact ⟨ret_bo H1.out.symm, hbl⟩
 ·have hne : r = false := by
   rw [hr]
   have : a ≠ b := fun e => hnm (by rw [← hna, ← hmb, e])
   simpa using this
  have e1 : ((n : Int) == (m : Int)) = false := by rw [beq_eq_false_iff_ne]; omega
  have H1 := Lib.hid hne
  clear hne hr
  go_enter Tryz.func175, Tryz.ntmps175
  go_wp2
  go_ret
  exact ⟨ret_bo H1.out.symm, Below.refl _ _⟩
theorem ssame_any (A : Option Addr) (n c : Nat) (a : List It) (B : Option Addr) (m d : Nat) (b : List It) (w : World) (hn : n ≤ 1000000) (hm : m ≤ 1000000) (ra : Row w.heap.size w A n 5 (itc a)) (rb : Row w.heap.size w B m 5 (itc b)) :
  Calls Tryz.prog 105 #[.slice A n c, .slice B m d] w fun e w' => e = .returned (.bool (decide (a = b))) ∧ Below w.heap.size w w' := by
 have HE := Lib.hid (iequal_any A n c a B m d b w hn hm ra rb)
 clear ra rb
 go_enter Tryz.func105, Tryz.ntmps105
 go_wp2_with fail
 refine HE.out.mono ?_
 rintro e w1 ⟨rfl, h1⟩
 go_wp2
 go_ret
 exact ⟨rfl, h1⟩
end
section
open Go Go.RowKit Go.Lib Go.Shelf
attribute [local go_sem] Oper.semAt_some
section
variable {F : Fence} {n : Nat} {P : Program}
def SeqTwo {α : Type} (F : Fence) (n : Nat) (P : Program) (gf : Nat) (lb : Array Value) (encs : α → Array Value) (Kp : World → World → Prop) (S Sp : List α → Prop) (N : Nat) (w0 : World) : Prop :=
 ∀ (l : Nat) (J Jx : List α → World → Prop) (W : World), Below w0.heap.size w0 W → (∀ pre W, J pre W → J pre W.drew) →
  (∀ pre x W, J pre W → pre.length < N → YieldAt F (n - 1) P l (encs x) W fun e W' => (e = .returned (.bool true) ∧ J (pre ++ [x]) W' ∧ Kp W W') ∨ (e = .returned (.bool false) ∧ Jx (pre ++ [x]) W')) → J [] W →
  CallsIn F n P gf (#[.func (.yield l) #[] #[]] ++ lb) W fun e W' => (∃ v, e = .returned v) ∧ ((∃ ys, S ys ∧ J ys W') ∨ (∃ pre, Sp pre ∧ Jx pre W'))
theorem chg_put {B l : Nat} {W : World} (hl : l = B ∨ l = B + 1) (o : Obj) : Chg [B, B + 1] W (W.putObj l o) := ⟨rfl, rfl, rfl, by simp, fun g _ hg => World.putObj_heap_other (fun e => hg (by subst e; rcases hl with rfl | rfl <;> simp))⟩
def LoopAt (B : Nat) (W : World) : Prop := W.heap[B]? = some (.deferred (some [])) ∧ ∃ r, W.heap[B + 1]? = some (.loop r)
theorem wpIn_rangeFunc_two {α : Type} {g : Operand} {ps : Array Tmp} {assign body : Code} {Q : Exit → Act → World → Prop} {a : Act} {w : World}
  (hro : F.round = none) (h1 : 1 ≤ n) {gf : Nat} {lb : Array Value} (hg : a.eval g = .func (.func gf) #[] lb) (hFg : F.fn gf) (eg : ∀ args w, (callFunc gf args).run P w = .ok (.enter gf args) w)
  {encs : α → Array Value} {Kp : World → World → Prop} {S Sp : List α → Prop} {N : Nat} {w0 : World} (hseq : SeqTwo F (n - 1) P gf lb encs Kp S Sp N w0)
  (hKt : ∀ {A B C : World}, Kp A B → Kp B C → Kp A C) (hKb : ∀ (W : World) (l : Nat) (o' : Obj), w.heap.size ≤ l → Kp W (W.putObj l o')) (hb0 : Below w0.heap.size w0 w) (hps : ∀ x, (encs x).size = ps.size)
  (I : List α → World → Prop) (Ix : Code → List α → World → Prop) (hI : ∀ s W W', I s W → Chg [w.heap.size, w.heap.size + 1] W W' → LoopAt w.heap.size W' → I s W') (hIx : ∀ c s W W', Ix c s W → Chg [w.heap.size, w.heap.size + 1] W W' → LoopAt w.heap.size W' → Ix c s W') (h0 : I [] w) (a₁ : α → Act)
  (hassign : ∀ (l : Nat) (x : α) (W : World) (K : Act → World → Prop), K (a₁ x) W →
   assign.wpIn (F.inRound l) (n - 1 - 1) P (Exit.then K (fun _ _ _ => False)) { tmps := (ps.zip (encs x)).foldl (fun t (p, v) => t.setIfInBounds p v) a.tmps, defers := [] } W)
  (hbody : ∀ (l : Nat) (pre : List α) (x : α) (W : World), LoopAt w.heap.size W → I pre W → pre.length < N → body.wpIn (F.inRound l) (n - 1 - 1) P (ownPostG w.heap.size Kp I Ix (pre ++ [x]) W) (a₁ x) W)
  (hdone : ∀ (D : Nat) (xs : List α) (W : World), w.heap.size ≤ D → S xs → I xs W → W.heap[D]? = some (.deferred (some [])) → D = w.heap.size → Q .normal { a with defers := { target := .collected D, args := #[] } :: a.defers } W)
  (hstop : ∀ (D : Nat) (c : Code) (pre : List α) (W : World), w.heap.size ≤ D → Sp pre → Ix c pre W → W.heap[D]? = some (.deferred (some [])) → D = w.heap.size → c.wpIn F n P Q { a with defers := { target := .collected D, args := #[] } :: a.defers } W) :
  (Code.rangeFunc g ps assign body).wpIn F n P Q a w := by
 refine wpIn_rangeFunc ?_
 intro fn hfn
 rw [hro]
 obtain ⟨rec, hrec⟩ : ∃ rec : LoopState → Option Code → Loop, rec = fun st pe => { state := st, pending := pe, fn, tmps := a.tmps, params := ps, assign, body, defers := w.heap.size } := ⟨_, rfl⟩
 obtain ⟨W1, hW1⟩ : ∃ W1, (w.alloc (.deferred (some []))).alloc (.loop (rec .ready none)) = W1 := ⟨_, rfl⟩
 have hL1 : W1.heap[w.heap.size + 1]? = some (.loop (rec .ready none)) := by
  rw [← hW1]; have := World.alloc_heap_new (w.alloc (.deferred (some []))) (.loop (rec .ready none)); rwa [World.size_alloc] at this
 have hK1 : W1.heap[w.heap.size]? = some (.deferred (some [])) := by
  rw [← hW1]; exact (Below.heap_alloc _ _ _ (by simp)).trans (World.alloc_heap_new w _)
 have hbw : Below w.heap.size w W1 := by
  rw [← hW1]; exact ((Below.refl _ w).alloc (Nat.le_refl _) _).alloc (by simp) _
 have hI1 : I [] W1 := hI [] w W1 h0 (Chg.of_below hbw _) ⟨hK1, _, hL1⟩
 have hb1 : Below w0.heap.size w0 W1 := hb0.trans (hbw.mono hb0.size)
 refine ⟨w.heap.size + 1, [{ target := .collected w.heap.size, args := #[] }], W1, { target := .fn (.func gf) lb, args := #[.func (.yield (w.heap.size + 1)) #[] #[]] }, W1, gf,
  #[.func (.yield (w.heap.size + 1)) #[] #[]] ++ lb, W1, ?_, ?_, ?_, ?_, fun _ => h1, ?_⟩
 ·rw [← hW1, hrec]; exact run_enterLoop_outer _ _ _ _ _
 ·simp only [resolve, hg]
  simp [go_sem]
 ·intro f' hf'; simp [Target.leads] at hf'; subst hf'; exact hFg
 ·simp [invoke, go_sem, eg]
 ·refine (hseq (w.heap.size + 1)
   (fun pre W => I pre W ∧ W.heap[w.heap.size + 1]? = some (.loop (rec .ready none)) ∧ W.heap[w.heap.size]? = some (.deferred (some [])))
   (fun pre W => ∃ c, Ix c pre W ∧ W.heap[w.heap.size + 1]? = some (.loop (rec .done (some c))) ∧ W.heap[w.heap.size]? = some (.deferred (some [])))
   W1 hb1 (fun s A hs => ⟨hI s A _ hs.1 ⟨rfl, rfl, rfl, Nat.le_refl _, fun _ _ _ => rfl⟩ ⟨hs.2.2, _, hs.2.1⟩, hs.2⟩) ?_ ⟨hI1, hL1, hK1⟩).mono ?_
  ·rintro pre x W ⟨hi, hl, hk⟩ hlen
   have hlt : w.heap.size + 1 < W.heap.size := (Array.getElem?_eq_some_iff.1 hl).1
   have hy := run_yield (P := P) (args := encs x) hl (by rw [hrec]; exact hps x)
   rw [hrec] at hy
   refine ⟨fn, _, assign, body, hy, roundIn_of_wpIn hfn (hassign _ x W _ ⟨_, run_beginRound hl (by rw [hrec]), ?_⟩)⟩
   have hl2 : (W.putObj (w.heap.size + 1) (.loop { rec .ready none with state := .busy })).heap[w.heap.size + 1]? = some (.loop { rec .ready none with state := .busy }) := World.putObj_heap_same hlt
   have hk2 : (W.putObj (w.heap.size + 1) (.loop { rec .ready none with state := .busy })).heap[w.heap.size]? = some (.deferred (some [])) := (World.putObj_heap_other (by omega)).trans hk
   have hw2 : Kp W (W.putObj (w.heap.size + 1) (.loop { rec .ready none with state := .busy })) := hKb _ _ _ (by omega)
   refine wpIn_mono (hbody _ pre x _ ⟨hk2, _, hl2⟩ (hI _ _ _ hi (chg_put (.inr rfl) _) ⟨hk2, _, hl2⟩) hlen) ?_
   have fin : ∀ (jump : Option Code) (W3 : World), KeepsFrom w.heap.size (W.putObj (w.heap.size + 1) (.loop { rec .ready none with state := .busy })) W3 →
     (Instr.endRound (w.heap.size + 1) jump).run P W3 = .ok (.bool jump.isNone) (W3.putObj (w.heap.size + 1) (.loop (rec (if jump.isNone then .ready else .done) jump))) ∧
     W3.heap[w.heap.size + 1]? = some (.loop { rec .ready none with state := .busy }) ∧
     (W3.putObj (w.heap.size + 1) (.loop (rec (if jump.isNone then .ready else .done) jump))).heap[w.heap.size + 1]? = some (.loop (rec (if jump.isNone then .ready else .done) jump)) ∧
     (W3.putObj (w.heap.size + 1) (.loop (rec (if jump.isNone then .ready else .done) jump))).heap[w.heap.size]? = some (.deferred (some [])) := fun jump W3 hk3 => by
    have hl3 := hk3.same _ _ (by omega) hl2 rfl
    have := run_endRound (P := P) jump hl3
    rw [hrec] at this ⊢
    exact ⟨this, by rw [hrec] at hl3; exact hl3, World.putObj_heap_same (Array.getElem?_eq_some_iff.1 hl3).1, (World.putObj_heap_other (by omega)).trans (hk3.same _ _ (Nat.le_refl _) hk2 rfl)⟩
   rintro e a3 W3 hp
   cases e with
   | normal =>
    obtain ⟨hk3, hkp3, hi3⟩ := hp
    obtain ⟨hr, hl3, hl4, hk4⟩ := fin none W3 hk3
    exact ⟨_, _, hr, .inl ⟨rfl, ⟨hI _ _ _ hi3 (chg_put (.inr rfl) _) ⟨hk4, _, hl4⟩, hl4, hk4⟩, hKt (hKt hw2 hkp3) (hKb _ _ _ (by omega))⟩⟩
   | ret =>
    obtain ⟨hk3, hi3⟩ := hp
    obtain ⟨hr, hl3, hl4, hk4⟩ := fin (some .ret) W3 hk3
    exact ⟨_, _, hr, .inr ⟨rfl, .ret, hIx _ _ _ _ hi3 (chg_put (.inr rfl) _) ⟨hk4, _, hl4⟩, hl4, hk4⟩⟩
   | exit id =>
    obtain ⟨hk3, hi3⟩ := hp
    obtain ⟨hr, hl3, hl4, hk4⟩ := fin (some (.exit id)) W3 hk3
    exact ⟨_, _, hr, .inr ⟨rfl, .exit id, hIx _ _ _ _ hi3 (chg_put (.inr rfl) _) ⟨hk4, _, hl4⟩, hl4, hk4⟩⟩
   | goto t =>
    obtain ⟨hk3, hi3⟩ := hp
    obtain ⟨hr, hl3, hl4, hk4⟩ := fin (some (.goto t)) W3 hk3
    exact ⟨_, _, hr, .inr ⟨rfl, .goto t, hIx _ _ _ _ hi3 (chg_put (.inr rfl) _) ⟨hk4, _, hl4⟩, hl4, hk4⟩⟩
   | panic ch => exact hp.elim
   | outgrown => exact hp.elim
  ·rintro e W2 ⟨⟨v, rfl⟩, (⟨xs, hS, hi, hl, hk⟩ | ⟨pre, hSp, c, hi, hl, hk⟩)⟩
   ·exact ⟨none, _, by have := run_endLoop (P := P) hl (by rw [hrec]; simp); rw [hrec] at this; exact this, hdone _ xs _ (Nat.le_refl _) hS (hI _ _ _ hi (chg_put (.inr rfl) _) ⟨(World.putObj_heap_other (by omega)).trans hk, _, World.putObj_heap_same (Array.getElem?_eq_some_iff.1 hl).1⟩) ((World.putObj_heap_other (by omega)).trans hk) rfl⟩
   ·exact ⟨some c, _, by have := run_endLoop (P := P) hl (by rw [hrec]; simp); rw [hrec] at this; exact this, hstop _ c pre _ (Nat.le_refl _) hSp (hIx _ _ _ _ hi (chg_put (.inr rfl) _) ⟨(World.putObj_heap_other (by omega)).trans hk, _, World.putObj_heap_same (Array.getElem?_eq_some_iff.1 hl).1⟩) ((World.putObj_heap_other (by omega)).trans hk) rfl⟩
end
theorem chunk_two (F : Fence) (n : Nat) (h7 : F.fn 176) (hro : F.round = none) (hn : 1 ≤ n) (Bs Bn : Nat) (Kp : World → World → Prop) (hKc : ∀ W W', Kp W W' → W'.cell? ⟨Bs, 0, none⟩ = W.cell? ⟨Bs, 0, none⟩ ∧ W'.cell? ⟨Bn, 0, none⟩ = W.cell? ⟨Bn, 0, none⟩) (p : Addr) (len cap m : Nat) (L : List It) (hL : L.length = len) (hm : 1 ≤ m) (hm2 : m ≤ 1000) (hlen : len ≤ 100000) (hcap : len ≤ cap) {N : Nat} (hN : ∀ k, k * m < len → k < N) (w : World) (hb1 : Bs < w.heap.size) (hb2 : Bn < w.heap.size)
  (hBs : w.cell? ⟨Bs, 0, none⟩ = some (.slice (some p) len cap)) (hBn : w.cell? ⟨Bn, 0, none⟩ = some (.int .i64 (m : Int))) :
  SeqTwo F n Tryz.prog 176 #[.pointer (some ⟨Bs, 0, none⟩), .pointer (some ⟨Bn, 0, none⟩)] (fun x : Ck m len => #[Ck.val p x]) Kp (fun ys => ys.map (Ck.of L) = Tb.cut m len L) (fun _ => True) N w := fun l J Jx W hW hJd hY h0 =>
 (chunk1_in F n h7 hro hn l Bs Bn Kp hKc p len cap m L hL hm hm2 hlen hcap J Jx hJd (fun pre x W hj hl => hY pre x W hj (hN _ hl)) W ((hW.cell (p := ⟨Bs, 0, none⟩) hb1).trans hBs) ((hW.cell (p := ⟨Bn, 0, none⟩) hb2).trans hBn) h0).mono fun _ _ ⟨he, h⟩ => ⟨he, h.imp id fun ⟨pre, h1⟩ => ⟨pre, trivial, h1⟩⟩
end
section
open Go Go.RowKit Go.Lib Go.Shelf
variable {w w1 w2 : World} {X X1 X2 : Dw} {S S1 S2 : Sd} {Y Y1 Y2 : Yw} {V V1 V2 : Sv}
theorem isNew_none (hno : ∀ s ∈ S.list, St.isOwn s = false) : St.isNew S = true := by
 unfold St.isNew
 have : (S.list.any fun s => St.isOwn s && !St.isNone S s) = false := by
  rw [List.any_eq_false]
  intro s hs
  rw [hno s hs]
  simp
 rw [this]
 rfl
theorem sopen_new (h : Dm w X S) (hd : S.dead = false) (hno : ∀ s ∈ S.list, St.isOwn s = false) (hld : S.load ≤ 100000000000) (S' : Sd) (V' : Sv) (hR : St.create S = (S', some V', 0)) :
  Calls Tryz.prog 27 #[.pointer (some ⟨X.d, 0, none⟩)] w (SvBorn X w S' V') := by
 have hin := isnew_any X S w h
 rw [isNew_none hno] at hin
 have hcr : ∀ W, Below w.heap.size w W → Calls Tryz.prog 62 #[.pointer (some ⟨X.d, 0, none⟩)] W (SvBorn X w S' V') := fun W hb => (screate_any (h.below hb) hno hld S' V' hR).mono fun e w' ⟨X', Y, q1, q2, q3, q4, q5⟩ => ⟨X', Y, q1, q2, q3, (Chg.of_below hb X.foot).trans q4 (fun g hg => .inl hg), fun g hg => (q5 g hg).imp id (Nat.le_trans hb.size)⟩
 have c6 := h.dk.box.cell 6
 simp only [Dw.cells, gE0, gE1] at c6
 rw [hd] at c6
 have HIN := Lib.hid hin
 have HCR := Lib.hid hcr
 clear h hd hin hcr hno hR hld
 go_enter Tryz.func27, Tryz.ntmps27
 go_wp2_with (first | (go_at_call 60; go_in) | fail)
 with_reducible refine HIN.out.mono ?_
 rintro e w1 ⟨rfl, hb1⟩
 go_wp2_with fail
 with_reducible refine (HCR.out w1 hb1).mono ?_
 rintro e w2 ⟨X', Y, rfl, h2⟩
 have HZ : Hid (SvBorn X w S' V' (.returned (.tuple #[.pointer (some ⟨Y.s, 0, none⟩), .int .i64 0])) w2) := Lib.hid ⟨X', Y, rfl, h2⟩
 clear h2 hb1 HIN HCR
 go_wp2
 go_ret2
 exact HZ.out
end
section
open Go
namespace Ls
def ins (x : List UInt8) : List (List UInt8) → List (List UInt8)
 | [] => [x]
 | y :: r => if decide (x ≤ y) = true then x :: y :: r else y :: ins x r
def sort (l : List (List UInt8)) : List (List UInt8) := l.foldr ins []
theorem ins_perm (x : List UInt8) : ∀ l, (ins x l).Perm (x :: l)
 | [] => List.Perm.refl _
 | y :: r => by
  unfold ins
  split
  ·exact List.Perm.refl _
  ·exact ((ins_perm x r).cons y).trans (List.Perm.swap x y r)
theorem sort_perm : ∀ l, (sort l).Perm l
 | [] => List.Perm.refl _
 | x :: r => by
  show (ins x (sort r)).Perm (x :: r)
  exact (ins_perm x _).trans ((sort_perm r).cons x)
theorem mem_ins {x z : List UInt8} {l : List (List UInt8)} : z ∈ ins x l ↔ z = x ∨ z ∈ l := by rw [(ins_perm x l).mem_iff, List.mem_cons]
theorem ins_pw (x : List UInt8) : ∀ (l : List (List UInt8)), l.Pairwise (fun a b => decide (a ≤ b) = true) → (ins x l).Pairwise (fun a b => decide (a ≤ b) = true)
 | [], _ => List.pairwise_singleton _ _
 | y :: r, h => by
  obtain ⟨h1, h2⟩ := List.pairwise_cons.1 h
  unfold ins
  split
  ·rename_i hxy
   refine List.pairwise_cons.2 ⟨fun z hz => ?_, h⟩
   rcases List.mem_cons.1 hz with rfl | hz
   ·exact hxy
   ·have q1 := of_decide_eq_true hxy
    have q2 := of_decide_eq_true (h1 z hz)
    exact decide_eq_true (List.le_trans q1 q2)
  ·rename_i hxy
   refine List.pairwise_cons.2 ⟨fun z hz => ?_, ins_pw x r h2⟩
   rcases mem_ins.1 hz with rfl | hz
   ·rcases List.le_total z y with q | q
    ·exact absurd (decide_eq_true q) hxy
    ·exact decide_eq_true q
   ·exact h1 z hz
theorem sort_pw : ∀ l, (sort l).Pairwise (fun a b => decide (a ≤ b) = true)
 | [] => List.Pairwise.nil
 | x :: r => ins_pw x _ (sort_pw r)
def list (d : Sd) : List (List UInt8) := if d.dead = true then [] else sort (d.names.map (·.1))
theorem list_eq : Sd.list = list := by
 funext d
 unfold Sd.list list
 split
 ·rfl
 ·have h1 := mergeSort_of_perm (sort_perm (d.names.map (·.1))).symm
  have h2 := List.mergeSort_of_pairwise (sort_pw (d.names.map (·.1)))
  exact h1.trans h2
section
variable (L : Sd → List (List UInt8))
def fin (d : Sd) (M : Gs) (nm : List UInt8) : Sd × Gs × Nat :=
 if (d.syncDir).2 ≠ 0 then ((d.syncDir).1, { M with name := nm, count := 1, broken := true }, (d.syncDir).2)
 else (Mw.sweep nm (L (d.syncDir).1) (d.syncDir).1, { M with name := nm, count := 1 }, 0)
def ren (d : Sd) (M : Gs) (nm : List UInt8) : Sd × Gs × Nat :=
 if (d.rename Mw.kTemp Mw.kCur).2 ≠ 0 then ((d.rename Mw.kTemp Mw.kCur).1, M, (d.rename Mw.kTemp Mw.kCur).2) else fin L (d.rename Mw.kTemp Mw.kCur).1 M nm
def sd1 (d : Sd) (M : Gs) (nm : List UInt8) : Sd × Gs × Nat :=
 if (d.syncDir).2 ≠ 0 then ((d.syncDir).1, M, (d.syncDir).2) else ren L (d.syncDir).1 M nm
def hd (d : Sd) (M : Gs) (nm : List UInt8) : Sd × Gs × Nat :=
 if (d.write Mw.kTemp (Mw.headB ((Mn.number nm Mn.kMan).getD 0))).2 ≠ 0 then ((d.write Mw.kTemp (Mw.headB ((Mn.number nm Mn.kMan).getD 0))).1, M, (d.write Mw.kTemp (Mw.headB ((Mn.number nm Mn.kMan).getD 0))).2)
 else sd1 L (d.write Mw.kTemp (Mw.headB ((Mn.number nm Mn.kMan).getD 0))).1 M nm
def tmp (d : Sd) (M : Gs) (nm : List UInt8) : Sd × Gs × Nat :=
 if (d.read Mw.kTemp).2 = 0 then
  if (d.remove Mw.kTemp).2 ≠ 0 then ((d.remove Mw.kTemp).1, M, (d.remove Mw.kTemp).2) else hd L (d.remove Mw.kTemp).1 M nm
 else hd L d M nm
def rewrite (d : Sd) (M : Gs) (nm : List UInt8) : Sd × Gs × Nat :=
 if (d.write nm M.v.whole.rec_).2 ≠ 0 then ((d.write nm M.v.whole.rec_).1, M, (d.write nm M.v.whole.rec_).2)
 else tmp L (d.write nm M.v.whole.rec_).1 M nm
def create (S : Sd) : Sd × Option Sv × Nat :=
 let a := St.wipe (L S) S
 if a.2 ≠ 0 then (a.1, none, a.2) else
 let b := a.1.create St.kLog1
 if b.2 ≠ 0 then (b.1, none, b.2) else
 let c := b.1.sync St.kLog1
 if c.2 ≠ 0 then (c.1, none, c.2) else
 let r := rewrite L c.1 St.first (Mn.name Mn.kMan 1)
 if r.2.2 ≠ 0 then (r.1, none, r.2.2) else (r.1, some ⟨r.2.1, St.kLog1, 0, 0, [], [], [], false⟩, 0)
def number (S : Sd) : Int := max (Mn.greatest (L S) Mn.kLog) (Mn.greatest (L S) Mn.kTab) + 1
def write (S : Sd) (l : List It) : Sd × Nat :=
 if 1073741824 < number L S then (S, 65) else
 let s := Mn.name Mn.kTab (number L S)
 let a := S.create s
 if a.2 ≠ 0 then a else
 let b := a.1.append s (Tb.make l)
 if b.2 ≠ 0 then b else b.1.sync s
def fresh (S : Sd) : Sd × Nat :=
 if 1073741824 < number L S then (S, 65) else
 let s := Mn.name Mn.kLog (number L S)
 let a := S.create s
 if a.2 ≠ 0 then a else a.1.sync s
def flush2 (S : Sd) (V : Sv) (add : List (Int × Int)) (tabs : List ((Int × Int) × List (List It))) : Sd × Sv × Nat :=
 let b := fresh L S
 if b.2 ≠ 0 then (b.1, V, b.2) else
 let r := St.turn b.1 V ⟨[], add, number L S, 0, 0, 0, 0⟩ (St.turned (number L S) tabs)
 if r.2.2 = 0 then ((r.1.remove (Mn.name Mn.kLog V.M.v.log)).1, r.2.1, 0) else r
def flush (S : Sd) (V : Sv) : Sd × Sv × Nat :=
 if V.only = true then (S, V, 14) else
 if V.ct = 0 then (S, V, 0) else
 if 30 ≤ V.tabs.length then (S, V, 65) else
 if St.live V = [] then flush2 L S V [] V.tabs else
 let a := write L S (St.live V)
 if a.2 ≠ 0 then (a.1, V, a.2) else flush2 L a.1 V [(0, number L S)] (V.tabs ++ [((0, number L S), Tb.rows (St.live V))])
end
theorem create_eq (S : Sd) : St.create S = create list S := by rw [← list_eq]; rfl
end Ls
end
section
open Go
namespace Aw
def y : It := ⟨3, 2, 7, 9, 5⟩
def dflt : Sv := ⟨St.first, [], 0, 0, [], [], [], false⟩
def c0 : Sd × Option Sv × Nat := Ls.create Ls.list (Sd.new 1048576)
def S0 : Sd := c0.1
def V0 : Sv := c0.2.1.getD dflt
def r1 : Sd × Sv × Nat := St.apply S0 V0 [y]
def r2 : Sd × Sv × Nat := Ls.flush Ls.list r1.1 r1.2.1
theorem opt_getD {α : Type} {o : Option α} {d : α} (h : o.isSome = true) : o = some (o.getD d) := by cases o <;> simp at h ⊢
theorem c0_some : c0.2.1.isSome = true := by decide +kernel
theorem c0_zero : c0.2.2 = 0 := by decide +kernel
theorem born : St.create (Sd.new 1048576) = (S0, some V0, 0) := by
 rw [Ls.create_eq]
 have h3 := opt_getD (d := dflt) c0_some
 have h2 := c0_zero
 show c0 = _
 unfold S0 V0
 generalize c0 = c at *
 obtain ⟨a, b, n⟩ := c
 simp only at h2 h3 ⊢
 rw [h2, ← h3]
theorem f0 : V0.st = [] ∧ V0.mem = [] ∧ V0.sz = 0 ∧ V0.ct = 0 ∧ V0.nm.length ≤ 1000 := by decide +kernel
theorem f1 : (St.apply S0 V0 [y]).2.2 = 0 := by decide +kernel
theorem f2 : r1.2.1.mem = [y] ∧ r1.2.1.st = [y] ∧ Tb.good (St.live r1.2.1) = true ∧ r1.2.1.M.v.files.length ≤ 40 ∧ (1 ≤ r1.2.1.M.v.log ∧ r1.2.1.M.v.log ≤ 1073741824) ∧ r1.2.1.M.count ≤ 1000000000 ∧ r1.2.1.M.name.length ≤ 1000 ∧ r1.1.load ≤ 100000000000 := by decide +kernel
theorem f3 : r2.2.2 = 0 := by decide +kernel
theorem f4 : r2.2.1.tabs.length = 1 ∧ r2.2.1.st = [y] := by decide +kernel
end Aw
end
section
open Go Go.RowKit Go.Lib Go.Shelf
variable {w w1 w2 : World} {X X1 X2 : Dw} {S S1 S2 : Sd} {Y Y1 Y2 : Yw} {V V1 V2 : Sv}
structure WAt (w0 w : World) (gw : Nat) (X : Dw) (S : Sd) (Y : Yw) (V : Sv) : Prop where
 at_ : SvAt w X S Y V
 box : BoxO w 34 gw [.pointer (some ⟨X.d, 0, none⟩), .pointer (some ⟨Y.s, 0, none⟩), .slice none 0 0, .int .u64 0, .int .u64 0, .int .u64 0, .int .u64 0]
 low : ∀ g ∈ XY X Y, w0.heap.size ≤ g
 out : gw ∉ XY X Y
 gl : w0.heap.size ≤ gw
 bel : Below w0.heap.size w0 w
theorem WAt.below {w0 : World} {gw : Nat} (h : WAt w0 w gw X S Y V) (hb : Below w.heap.size w w1) : WAt w0 w1 gw X S Y V := ⟨h.at_.below hb, h.box.below hb, h.low, h.out, h.gl, later_ h.bel hb⟩
theorem WAt.upd {w0 : World} {gw : Nat} (h : WAt w0 w gw X S Y V) (hu : SvUpd X Y w w1 S1 V1) : ∃ X1 Y1, WAt w0 w1 gw X1 S1 Y1 V1 ∧ ∀ g ∈ XY X1 Y1, g ∈ XY X Y ∨ w.heap.size ≤ g := by
 obtain ⟨X1, Y1, e, es, h1, c, f⟩ := hu
 have hl := h.box.lt
 refine ⟨X1, Y1, ⟨h1, by rw [e, es]; exact h.box.chg c h.out, fun g hg => ?_, fun hm => ?_, h.gl, h.bel.trans (c.below h.bel.size h.low)⟩, f⟩
 ·rcases f g hg with q | q
  ·exact h.low g q
  ·exact Nat.le_trans h.bel.size q
 ·rcases f gw hm with q | q
  ·exact h.out q
  ·omega
end
section
open Go Go.RowKit Go.Lib Go.Shelf
variable {w w1 w2 : World} {X X1 X2 : Dw} {S S1 S2 : Sd} {Y Y1 Y2 : Yw} {V V1 V2 : Sv}
def hval (lev n : Int) (f : Nat) : Value := .agg #[.int .i64 lev, .int .i64 n, .pointer (some ⟨f, 0, none⟩)]
structure Way (w0 : World) (X0 : Dw) (Y : Yw) (V : Sv) (w : World) (X : Dw) (S : Sd) : Prop where
 at_ : SvAt w X S Y V
 d : X.d = X0.d
 c : Chg (XY X0 Y) w0 w
 f : ∀ g ∈ XY X Y, g ∈ XY X0 Y ∨ w0.heap.size ≤ g
theorem Way.start (h : SvAt w X S Y V) : Way w X Y V w X S := ⟨h, rfl, Chg.refl _ _, fun _ hg => .inl hg⟩
theorem Way.below {w0 : World} {X0 : Dw} (k : Way w0 X0 Y V w X S) (hb : Below w.heap.size w w1) : Way w0 X0 Y V w1 X S := ⟨k.at_.below hb, k.d, k.c.trans (Chg.of_below hb []) (fun g hg => by cases hg), k.f⟩
theorem Way.disk {w0 : World} {X0 : Dw} (k : Way w0 X0 Y V w X S) (hu : UpdM X w w1 S1) : ∃ X1, X1.d = X.d ∧ Way w0 X0 Y V w1 X1 S1 ∧ Chg (XY X Y) w w1 ∧ ∀ g ∈ XY X1 Y, g ∈ XY X Y ∨ w.heap.size ≤ g := by
 obtain ⟨X1, e, h1, c1, f1⟩ := k.at_.disk hu
 refine ⟨X1, e, ⟨h1, e.trans k.d, k.c.trans c1 k.f, fun g hg => ?_⟩, c1, f1⟩
 rcases f1 g hg with q | q
 ·exact k.f g q
 ·exact .inr (Nat.le_trans k.c.size q)
theorem Way.upd {w0 : World} {X0 : Dw} (k : Way w0 X0 Y V w X S) : SvUpd X0 Y w0 w S V := ⟨X, Y, k.d, rfl, k.at_, k.c, k.f⟩
end
section
open Go Go.RowKit Go.Lib Go.Shelf
variable {w w1 w2 : World} {X X1 X2 : Dw} {S S1 S2 : Sd} {Y Y1 Y2 : Yw} {V V1 V2 : Sv}
end
section
open Go Go.RowKit Go.Lib Go.Shelf
variable {w w1 w2 : World} {X X1 X2 : Dw} {S S1 S2 : Sd} {Y Y1 Y2 : Yw} {V V1 V2 : Sv}
end
section
open Go Go.RowKit Go.Lib
end
section
open Go Go.RowKit Go.Lib
theorem it_equal (x y : It) (w : World) : (Op.equal 27 (.agg #[.int .i64 x.s, .int .i64 x.k, .int .u64 (x.t : Int), .int .u64 (x.v : Int), .int .i64 x.x]) (.agg #[.int .i64 y.s, .int .i64 y.k, .int .u64 (y.t : Int), .int .u64 (y.v : Int), .int .i64 y.x])).run Tryz.prog w = .ok (decide (x = y)) w := by
 have u3 := Tryz.underlying3
 have a3 := Tryz.isAgg3
 have z3 := Tryz.sizeOf3
 have u4 := Tryz.underlying25
 have a4 := Tryz.isAgg25
 have z4 := Tryz.sizeOf25
 have u5 := Tryz.underlying2
 have a5 := Tryz.isAgg2
 have z5 := Tryz.sizeOf2
 have hS : Tryz.prog.underlying 27 = some (.struct (Tryz.prog.fieldsOf 27)) := by kernel_rfl
 have hp : Tryz.prog.stoodInHeld 27 = false := by kernel_rfl
 have e0 : (Op.equal 27 (.agg #[.int .i64 x.s, .int .i64 x.k, .int .u64 (x.t : Int), .int .u64 (x.v : Int), .int .i64 x.x]) (.agg #[.int .i64 y.s, .int .i64 y.k, .int .u64 (y.t : Int), .int .u64 (y.v : Int), .int .i64 y.x])).run Tryz.prog w = (Op.equalIn 10000 27 (.agg #[.int .i64 x.s, .int .i64 x.k, .int .u64 (x.t : Int), .int .u64 (x.v : Int), .int .i64 x.x]) (.agg #[.int .i64 y.s, .int .i64 y.k, .int .u64 (y.t : Int), .int .u64 (y.v : Int), .int .i64 y.x])).run Tryz.prog w := by simp only [Op.equal, Op.maxDepth]
 rw [e0, show (10000 : Nat) = 9999 + 1 from rfl, run_equalIn_agg w 9999 27 _ _ hS hp]
 simp only [Program.fieldsOf, Tryz.underlying27]
 go_simp
 have e : decide (x = y) = (decide (x.s = y.s) && (decide (x.k = y.k) && (decide (x.t = y.t) && (decide (x.v = y.v) && decide (x.x = y.x))))) := by
  rw [← Bool.decide_and, ← Bool.decide_and, ← Bool.decide_and, ← Bool.decide_and]
  exact decide_eq_decide.2 ⟨fun h => by subst h; simp, fun ⟨h1, h2, h3, h4, h5⟩ => It.ext h1 h2 h3 h4 h5⟩
 rw [e]
 by_cases h1 : x.s = y.s <;> by_cases h2 : x.k = y.k <;> by_cases h3 : x.t = y.t <;> by_cases h4 : x.v = y.v <;> by_cases h5 : x.x = y.x <;> simp [h1, h2, h3, h4, h5] <;> omega
theorem it_checkKey (em : Bool) (x : It) (w : World) : (Instr.checkKey em 10000 27 (.agg #[.int .i64 x.s, .int .i64 x.k, .int .u64 (x.t : Int), .int .u64 (x.v : Int), .int .i64 x.x])).run Tryz.prog w = .ok () w := by
 kernel_rfl
theorem it_stays (x : It) (w : World) : (Instr.keyThatStays (.agg #[.int .i64 x.s, .int .i64 x.k, .int .u64 (x.t : Int), .int .u64 (x.v : Int), .int .i64 x.x]) (.agg #[.int .i64 x.s, .int .i64 x.k, .int .u64 (x.t : Int), .int .u64 (x.v : Int), .int .i64 x.x])).run Tryz.prog w = .ok (.agg #[.int .i64 x.s, .int .i64 x.k, .int .u64 (x.t : Int), .int .u64 (x.v : Int), .int .i64 x.x]) w := by
 simp [Instr.keyThatStays, Instr.sameBits]
theorem val_inj {x y : It} (h : x.val = y.val) : x = y := by
 unfold It.val at h
 injection h with h
 simp only [Array.mk.injEq, List.cons.injEq, Value.int.injEq, true_and, and_true] at h
 obtain ⟨h1, h2, h3, h4, h5⟩ := h
 exact It.ext h1 h2 (by omega) (by omega) h5
theorem it_find (x : It) (w : World) : ∀ (es : List MapEntry) (i : Nat), (∀ e ∈ es, ∃ y : It, e.key = y.val) →
  ((Instr.findAsking 27 x.val es i).run Tryz.prog w = .ok none w ∧ ∀ e ∈ es, e.key ≠ x.val) ∨ ∃ j e, (Instr.findAsking 27 x.val es i).run Tryz.prog w = .ok (some (i + j, e.val)) w ∧ es[j]? = some e ∧ e.key = x.val
 | [], i, _ => .inl ⟨by simp [Instr.findAsking], by simp⟩
 | a :: es, i, h => by
  obtain ⟨y, hy⟩ := h a List.mem_cons_self
  have he := it_equal x y w
  by_cases hxy : x = y
  ·subst hxy
   refine .inr ⟨0, a, ?_, rfl, hy⟩
   unfold It.val at hy ⊢
   simp [Instr.findAsking, hy, he]
  ·rcases it_find x w es (i + 1) (fun e he => h e (List.mem_cons_of_mem _ he)) with ⟨h1, h2⟩ | ⟨j, e, h1, h2, h3⟩
   ·refine .inl ⟨?_, fun e hm => ?_⟩
    ·unfold It.val at hy h1 ⊢
     simp [Instr.findAsking, hy, he, hxy, h1]
    ·rcases List.mem_cons.1 hm with rfl | hm
     ·intro e2
      rw [hy] at e2
      exact hxy (val_inj e2).symm
     ·exact h2 e hm
   ·refine .inr ⟨j + 1, e, ?_, by simpa using h2, h3⟩
    unfold It.val at hy h1 ⊢
    simp [Instr.findAsking, hy, he, hxy, h1]
    omega
theorem it_findKey (x : It) (w : World) (es : List MapEntry) (h : ∀ e ∈ es, ∃ y : It, e.key = y.val) :
  ((Instr.findKey 27 x.val es).run Tryz.prog w = .ok none w ∧ ∀ e ∈ es, e.key ≠ x.val) ∨ ∃ j e, (Instr.findKey 27 x.val es).run Tryz.prog w = .ok (some (j, e.val)) w ∧ es[j]? = some e ∧ e.key = x.val := by
 have hS : Tryz.prog.underlying 27 = some (.struct (Tryz.prog.fieldsOf 27)) := by kernel_rfl
 cases es with
 | nil =>
  refine .inl ⟨?_, by simp⟩
  simp [Instr.findKey, run_underlying hS, Instr.findNow]
 | cons a es =>
  obtain ⟨y, hy⟩ := h a List.mem_cons_self
  have hn : Instr.findNow (.struct (Tryz.prog.fieldsOf 27)) x.val (a :: es) 0 = none := by
   unfold Instr.findNow
   rw [hy]
   rfl
  have hf : (Instr.findKey 27 x.val (a :: es)).run Tryz.prog w = (Instr.findAsking 27 x.val (a :: es)).run Tryz.prog w := by
   simp [Instr.findKey, run_underlying hS, hn]
  rw [hf]
  rcases it_find x w (a :: es) 0 h with h1 | ⟨j, e, h1, h2, h3⟩
  ·exact .inl h1
  ·exact .inr ⟨j, e, by simpa using h1, h2, h3⟩
def MpI (es : List MapEntry) (clock : Nat) (M : List It) (B : Nat) : Prop :=
 (∀ e ∈ es, (∃ y ∈ M, e.key = y.val) ∧ (∃ c : Nat, 1 ≤ c ∧ c ≤ B ∧ e.val = .int .i64 (c : Int)) ∧ e.born < clock) ∧ ∀ y ∈ M, ∃ e ∈ es, e.key = y.val
def MpAt (w : World) (b : Nat) (M : List It) (B : Nat) : Prop := ∃ es clock, w.heap[b]? = some (.map es clock) ∧ MpI es.toList clock M B
def MpMid (w : World) (b : Nat) (M : List It) (x : It) (st B : Nat) : Prop := ∃ es clock, w.heap[b]? = some (.map es clock) ∧
 (∀ e ∈ es.toList, (∃ y ∈ M ++ [x], e.key = y.val) ∧ e.born < clock) ∧ (∀ y ∈ M ++ [x], ∃ e ∈ es.toList, e.key = y.val) ∧ (∃ i : Nat, es.toList.findIdx? (fun e => ((e.born : Nat) : Int) == ((st : Nat) : Int)) = some i ∧
  ∀ (j : Nat) e, es.toList[j]? = some e → (∃ c : Nat, c ≤ B ∧ e.val = .int .i64 (c : Int) ∧ (j ≠ i → 1 ≤ c)))
theorem MpAt.look {w : World} {b : Nat} {M : List It} {B : Nat} (h : MpAt w b M B) (x : It) : ∃ c : Nat, c ≤ B ∧ (decide (0 < c) = decide (x ∈ M)) ∧ (Instr.lookup 248 (.map (some b)) x.val false).run Tryz.prog w = .ok (.int .i64 (c : Int)) w := by
 obtain ⟨es, clock, hb, h1, h2⟩ := h
 have ht : Tryz.prog.underlying 248 = some (.map 27 3) := by kernel_rfl
 have hz : (zeroValue 3).run Tryz.prog w = .ok (.int .i64 0) w := by kernel_rfl
 have hck := it_checkKey es.isEmpty x w
 rcases it_findKey x w es.toList (fun e he => let ⟨y, _, h⟩ := (h1 e he).1; ⟨y, h⟩) with ⟨k1, k2⟩ | ⟨j, e, k1, k2, k3⟩
 ·refine ⟨0, Nat.zero_le _, ?_, ?_⟩
  ·have : x ∉ M := fun hm => by
    obtain ⟨e, he, hk⟩ := h2 x hm
    exact k2 e he hk
   simp [this]
  ·unfold It.val at k1 ⊢
   simp [Instr.lookup, run_underlying ht, MapKept.run_getObj_map hb, hck, k1, hz]
 ·have he := List.mem_of_getElem? k2
  obtain ⟨⟨y, hy, hk⟩, ⟨c, c1, c2, c3⟩, _⟩ := h1 e he
  refine ⟨c, c2, ?_, ?_⟩
  ·have : x = y := val_inj (k3.symm.trans hk)
   subst this
   simp [hy]
   omega
  ·unfold It.val at k1 ⊢
   simp [Instr.lookup, run_underlying ht, MapKept.run_getObj_map hb, hck, k1, c3]
theorem MpMid.look {w : World} {b : Nat} {M : List It} {x : It} {st B : Nat} (h : MpMid w b M x st B) (y : It) : ∃ c : Nat, c ≤ B ∧ (Instr.lookup 248 (.map (some b)) y.val false).run Tryz.prog w = .ok (.int .i64 (c : Int)) w := by
 obtain ⟨es, clock, hb, h1, h2, i, h3, h4⟩ := h
 have ht : Tryz.prog.underlying 248 = some (.map 27 3) := by kernel_rfl
 have hz : (zeroValue 3).run Tryz.prog w = .ok (.int .i64 0) w := by kernel_rfl
 have hck := it_checkKey es.isEmpty y w
 rcases it_findKey y w es.toList (fun e he => let ⟨y, _, h⟩ := (h1 e he).1; ⟨y, h⟩) with ⟨k1, k2⟩ | ⟨j, e, k1, k2, k3⟩
 ·refine ⟨0, Nat.zero_le _, ?_⟩
  unfold It.val at k1 ⊢
  simp [Instr.lookup, run_underlying ht, MapKept.run_getObj_map hb, hck, k1, hz]
 ·obtain ⟨c, c1, c2, _⟩ := h4 j e k2
  refine ⟨c, c1, ?_⟩
  unfold It.val at k1 ⊢
  simp [Instr.lookup, run_underlying ht, MapKept.run_getObj_map hb, hck, k1, c2]
abbrev putB (w : World) (b : Nat) (o : Obj) : World := { w with heap := w.heap.setIfInBounds b o }
theorem putB_heap {w : World} {b : Nat} {o : Obj} (hb : b < w.heap.size) : (putB w b o).heap[b]? = some o := by
 simp [putB, hb]
theorem MpAt.entry {w : World} {b : Nat} {M : List It} {B : Nat} (h : MpAt w b M B) (x : It) : ∃ (v0 : Value) (st : Nat) (o : Obj), (Instr.mapEntry 248 (.map (some b)) x.val).run Tryz.prog w = .ok (.tuple #[v0, .int .i64 (st : Int)]) (putB w b o) ∧ MpMid (putB w b o) b M x st B := by
 obtain ⟨es, clock, hb, h1, h2⟩ := h
 have hlt := (Array.getElem?_eq_some_iff.1 hb).1
 have ht : Tryz.prog.underlying 248 = some (.map 27 3) := by kernel_rfl
 have hz : (zeroValue 3).run Tryz.prog w = .ok (.int .i64 0) w := by kernel_rfl
 have hck := it_checkKey false x w
 have hst := it_stays x w
 rcases it_findKey x w es.toList (fun e he => let ⟨y, _, h⟩ := (h1 e he).1; ⟨y, h⟩) with ⟨k1, k2⟩ | ⟨j, e, k1, k2, k3⟩
 ·refine ⟨.int .i64 0, clock, .map (es.push ⟨x.val, .int .i64 0, clock⟩) (clock + 1), ?_, es.push ⟨x.val, .int .i64 0, clock⟩, clock + 1, putB_heap hlt, ?_, ?_, es.toList.length, ?_, ?_⟩
  ·unfold It.val at k1 ⊢
   simp [Instr.mapEntry, run_underlying ht, MapKept.run_getObj_map hb, hck, k1, hz, MapKept.run_setObj_map _ hb, goInt]
  ·intro e he
   simp only [Array.toList_push, List.mem_append, List.mem_singleton] at he
   rcases he with he | rfl
   ·obtain ⟨⟨y, hy, hk⟩, _, hc⟩ := h1 e he
    exact ⟨⟨y, List.mem_append_left _ hy, hk⟩, by omega⟩
   ·exact ⟨⟨x, by simp, rfl⟩, by simp⟩
  ·intro y hy
   simp only [Array.toList_push]
   rcases List.mem_append.1 hy with hy | hy
   ·obtain ⟨e, he, hk⟩ := h2 y hy
    exact ⟨e, List.mem_append_left _ he, hk⟩
   ·rw [List.mem_singleton.1 hy]
    exact ⟨_, List.mem_append_right _ (List.mem_singleton.2 rfl), rfl⟩
  ·simp only [Array.toList_push]
   have hno : ∀ (l : List MapEntry), (∀ e ∈ l, e.born < clock) → l.findIdx? (fun e => ((e.born : Nat) : Int) == ((clock : Nat) : Int)) = none := fun l hl => by
    rw [List.findIdx?_eq_none_iff]
    intro e he
    have := hl e he
    simp
    omega
   rw [List.findIdx?_append, hno _ (fun e he => (h1 e he).2.2)]
   simp [List.findIdx?_cons]
  ·intro j e he
   simp only [Array.toList_push] at he
   rcases Nat.lt_or_ge j es.toList.length with hj | hj
   ·rw [List.getElem?_append_left hj] at he
    obtain ⟨_, ⟨c, c1, c2, c3⟩, _⟩ := h1 e (List.mem_of_getElem? he)
    exact ⟨c, c2, c3, fun _ => c1⟩
   ·rw [List.getElem?_append_right hj] at he
    obtain ⟨hj0, he⟩ := List.getElem?_eq_some_iff.1 he
    have hj1 : j = es.toList.length := by
     have : j - es.toList.length < 1 := hj0
     omega
    subst hj1
    simp only [Nat.sub_self, List.getElem_cons_zero] at he
    subst he
    exact ⟨0, Nat.zero_le _, rfl, fun h => absurd rfl h⟩
 ·have he := List.mem_of_getElem? k2
  obtain ⟨⟨y, hy, hk⟩, ⟨c, c1, c2, c3⟩, _⟩ := h1 e he
  have hxy : x = y := val_inj (k3.symm.trans hk)
  subst hxy
  have hej : es[j]? = some e := by simpa using k2
  have hmod : es.modify j (fun e => { e with key := x.val }) = es := by
   apply Array.ext'
   rw [Array.toList_modify]
   apply List.ext_getElem?
   intro i
   rw [List.getElem?_modify]
   by_cases hij : j = i
   ·subst hij
    rw [k2]
    simp only [Option.map_eq_map, Option.map_some, if_pos]
    rw [← k3]
   ·simp [hij]
  obtain ⟨i, hi⟩ : ∃ i, es.toList.findIdx? (fun e' => ((e'.born : Nat) : Int) == ((e.born : Nat) : Int)) = some i := by
   cases hf : es.toList.findIdx? (fun e' => ((e'.born : Nat) : Int) == ((e.born : Nat) : Int)) with
   | some i => exact ⟨i, rfl⟩
   | none =>
    rw [List.findIdx?_eq_none_iff] at hf
    have := hf e he
    simp at this
  refine ⟨.int .i64 (c : Int), e.born, .map es clock, ?_, es, clock, putB_heap hlt, ?_, ?_, i, hi, ?_⟩
  ·unfold It.val at k1 k3 hmod hst ⊢
   simp [Instr.mapEntry, run_underlying ht, MapKept.run_getObj_map hb, hck, k1, hej, k3, hst, hmod, c3, MapKept.run_setObj_map _ hb, goInt]
  ·intro e' he'
   obtain ⟨⟨y, hy, hk⟩, _, hc⟩ := h1 e' he'
   exact ⟨⟨y, List.mem_append_left _ hy, hk⟩, hc⟩
  ·intro y' hy'
   rcases List.mem_append.1 hy' with hy' | hy'
   ·exact h2 y' hy'
   ·rw [List.mem_singleton.1 hy']
    exact ⟨e, he, k3⟩
  ·intro j' e' he'
   obtain ⟨_, ⟨c', c1', c2', c3'⟩, _⟩ := h1 e' (List.mem_of_getElem? he')
   exact ⟨c', c2', c3', fun _ => c1'⟩
theorem MpMid.store {w : World} {b : Nat} {M : List It} {x : It} {st B : Nat} (h : MpMid w b M x st B) (c : Nat) (hc1 : 1 ≤ c) (hc2 : c ≤ B + 1) : ∃ o : Obj, (Instr.entryStore 248 (.map (some b)) (.int .i64 (st : Int)) (.int .i64 (c : Int))).run Tryz.prog w = .ok () (putB w b o) ∧ MpAt (putB w b o) b (M ++ [x]) (B + 1) := by
 obtain ⟨es, clock, hb, h1, h2, i, h3, h4⟩ := h
 have hlt := (Array.getElem?_eq_some_iff.1 hb).1
 have hfi : es.findIdx? (fun e => ((e.born : Nat) : Int) == ((st : Nat) : Int)) = some i := by
  have e1 : es.findIdx? (fun e => ((e.born : Nat) : Int) == ((st : Nat) : Int)) = es.toList.findIdx? (fun e => ((e.born : Nat) : Int) == ((st : Nat) : Int)) := by cases es; simp
  rw [e1]
  exact h3
 refine ⟨.map (es.modify i fun e => { e with val := .int .i64 (c : Int) }) clock, ?_, es.modify i fun e => { e with val := .int .i64 (c : Int) }, clock, putB_heap hlt, ?_, ?_⟩
 ·simp [Instr.entryStore, MapKept.run_getObj_map hb, asInt, asIntOf, hfi, MapKept.run_setObj_map _ hb]
 ·intro e he
  rw [Array.toList_modify] at he
  obtain ⟨j, hj⟩ := List.getElem?_of_mem he
  rw [List.getElem?_modify] at hj
  cases hjj : es.toList[j]? with
  | none => rw [hjj] at hj; simp at hj
  | some e0 =>
   rw [hjj] at hj
   obtain ⟨hk, hbn⟩ := h1 e0 (List.mem_of_getElem? hjj)
   obtain ⟨c', d1, d2, d3⟩ := h4 j e0 hjj
   by_cases hij : i = j
   ·have h5 : ({ e0 with val := .int .i64 (c : Int) } : MapEntry) = e := by simpa [hij] using hj
    subst h5
    exact ⟨hk, ⟨c, hc1, hc2, rfl⟩, hbn⟩
   ·have h5 : e0 = e := by simpa [hij] using hj
    subst h5
    exact ⟨hk, ⟨c', d3 (fun e => hij e.symm), by omega, d2⟩, hbn⟩
 ·intro y hy
  obtain ⟨e, he, hk⟩ := h2 y hy
  obtain ⟨j, hj⟩ := List.getElem?_of_mem he
  rw [Array.toList_modify]
  by_cases hij : i = j
  ·refine ⟨{ e with val := .int .i64 (c : Int) }, ?_, hk⟩
   apply List.mem_of_getElem? (i := j)
   rw [List.getElem?_modify, hj]
   simp [hij]
  ·refine ⟨e, ?_, hk⟩
   apply List.mem_of_getElem? (i := j)
   rw [List.getElem?_modify, hj]
   simp [hij]
end
section
open Go Go.RowKit Go.Lib
def HsAt (w : World) (g b : Nat) (M : List It) : Prop := (∃ B, B ≤ 1000000 ∧ MpAt w b M B) ∧ BoxO w 248 g [.map (some b)]
theorem MpAt.below {w w' : World} {b B : Nat} {M : List It} (h : MpAt w b M B) (hb : Below w.heap.size w w') : MpAt w' b M B := by
 obtain ⟨es, clock, h1, h2⟩ := h
 exact ⟨es, clock, (hb.block b (Array.getElem?_eq_some_iff.1 h1).1).trans h1, h2⟩
theorem MpAt.grown {w w' : World} {b B : Nat} {M : List It} {r : Option Nat} (h : MpAt w b M B) (hg : w.grownBy w' r) (hne : some b ≠ r) : MpAt w' b M B := by
 obtain ⟨es, clock, h1, h2⟩ := h
 exact ⟨es, clock, (hg.block b (Array.getElem?_eq_some_iff.1 h1).1 hne).trans h1, h2⟩
theorem HsAt.below {w w' : World} {g b : Nat} {M : List It} (h : HsAt w g b M) (hb : Below w.heap.size w w') : HsAt w' g b M := ⟨let ⟨B, h1, h2⟩ := h.1; ⟨B, h1, h2.below hb⟩, h.2.below hb⟩
end
section
open Go Go.RowKit Go.Lib Go.Shelf
variable {w w1 w2 : World} {X X1 X2 : Dw} {S S1 S2 : Sd} {Y Y1 Y2 : Yw} {V V1 V2 : Sv}
theorem write_load (S : Sd) (l : List It) : (St.write S l).1.load ≤ S.load + 3 := by
 unfold St.write
 split
 ·simp
 ·have h1 := Sd.create_load S (Mn.name Mn.kTab (St.number S))
  simp only
  split
  ·omega
  ·split
   ·rw [Sd.append_load]
    omega
   ·rw [Sd.sync_load, Sd.append_load]
    omega
theorem Way.tabs {w0 : World} {X0 : Dw} {S0 : Sd} (h : SvAt w0 X0 S0 Y V) (k : Way w0 X0 Y V w X S) {G : List Nat} (hG : ∀ g ∈ G, g ∈ XY X Y ∨ w0.heap.size ≤ g) : Fixed G w fun W => TabsAt W Y.T Y.q V.tabs :=
 h.tabs.step k.c (fun g hg => by
  rcases hG g hg with q | q
  ·exact k.f g q
  ·exact .inr q)
end
section
open Go Go.RowKit Go.Lib Go.Shelf
variable {w w1 w2 : World} {X X1 X2 : Dw} {S S1 S2 : Sd} {Y Y1 Y2 : Yw} {V V1 V2 : Sv}
theorem SvUpd.c (h : SvUpd X Y w w1 S V) : Chg (XY X Y) w w1 := let ⟨_, _, _, _, _, c, _⟩ := h; c
def Aw.yc : List Value := #[.int .i64 3, .int .i64 2, .int .u64 7, .int .u64 9, .int .i64 5].toList
theorem Aw.row {W : World} {g : Nat} (h : BoxO W 27 g Aw.yc) : Row W.heap.size W (some ⟨g, 0, none⟩) 1 5 (itc [Aw.y]) := irow_box (x := Aw.y) h
end
end Go.Proofs.YtdkjoigpahafmaaGreatDoor
