/- Texts StoD, NodB, NodC, StateM, RangeTwo, StoJ, PlainList, PlainAwake, LawT, StoE, StoG, StoF, KeepA in one. No conditions. -/
import Derived.Test.YtdkjoigpahafmaaGreatDoorBunAA
import Derived.Test.YtdkjoigpahafmaaGreatDoorBunAO
import Derived.Test.YtdkjoigpahafmaaGreatDoorBunAI
import Derived.Test.YtdkjoigpahafmaaGreatDoorBunAK
import Derived.RangeFuncWrites
import Derived.Test.YtdkjoigpahafmaaGreatDoorBunAD
import Derived.Sort.KeysCollected
import Derived.Test.YtdkjoigpahafmaaGreatDoorBunAL

set_option linter.unusedSimpArgs false
set_option linter.unusedVariables false
set_option maxRecDepth 100000
set_option maxHeartbeats 16000000
namespace Go.Proofs.YtdkjoigpahafmaaGreatDoor
section
open Go Go.RowKit Go.Lib Go.Shelf
variable {w w1 w2 : World} {X X1 X2 : Dw} {S S1 S2 : Sd} {Y Y1 Y2 : Yw} {V V1 V2 : Sv}
def SgUpd (X : Dw) (Y : Yw) (w w' : World) (S' : Sd) (V' : Sv) : Prop := ∃ X' P', X'.d = X.d ∧ SvAt w' X' S' { Y with P := P' } V' ∧ Chg (XY X Y) w w' ∧ (∀ g ∈ XY X' Y, g ∈ XY X Y ∨ w.heap.size ≤ g) ∧ (P' = Y.P ∨ ∀ a, P'.a = some a → w.heap.size ≤ a.block)
theorem ssave_any (h : SvAt w X S Y V) (x : Ed) (D : Option Addr) (dm dd : Nat) (A2 : Option Addr) (n2 c2 : Nat) (hdm : dm ≤ 1000000) (hn2 : n2 ≤ 1000000) (hrd : Row w.heap.size w D dm 1 (icells x.drop)) (hra : Row w.heap.size w A2 n2 2 (fcells x.add)) (hvf : V.M.v.files.length ≤ 40)
  (hc0 : V.M.count ≤ 1000000000) (hnl : V.M.name.length ≤ 1000) :
  Calls Tryz.prog 109 #[.pointer (some ⟨Y.s, 0, none⟩), x.val D dm dd A2 n2 c2] w fun e w' => e = .returned (.int .i64 ((St.saved S V x).2.2 : Int)) ∧ SgUpd X Y w w' (St.saved S V x).1 (St.saved S V x).2.1 := by
 have hbA := (Below.refl w.heap.size w).alloc (Nat.le_refl _) (.cells #[.slice D dm dd, .slice A2 n2 c2, .int .i64 x.log, .int .u64 (x.floor : Int), .int .u64 (x.cert : Int), .int .u64 (x.at_ : Int), .int .u64 (x.lease : Int)] 163)
 have hbx := BoxO.new w #[.slice D dm dd, .slice A2 n2 c2, .int .i64 x.log, .int .u64 (x.floor : Int), .int .u64 (x.cert : Int), .int .u64 (x.at_ : Int), .int .u64 (x.lease : Int)] 163
 have h1 := h.below (below_drew hbA)
 have hrd1 := (hrd.below (below_drew hbA)).up hbA.size
 have hra1 := (hra.below (below_drew hbA)).up hbA.size
 have hsz : ∀ g ∈ XY X Y, g < w.heap.size := h.lt
 obtain ⟨W, hW⟩ : ∃ W, W = w.alloc (.cells #[.slice D dm dd, .slice A2 n2 c2, .int .i64 x.log, .int .u64 (x.floor : Int), .int .u64 (x.cert : Int), .int .u64 (x.at_ : Int), .int .u64 (x.lease : Int)] 163) := ⟨_, rfl⟩
 obtain ⟨ge, hge⟩ : ∃ ge, ge = w.heap.size := ⟨_, rfl⟩
 rw [← hge] at hbx
 rw [← hW] at hbA hbx h1 hrd1 hra1
 have hsv := gsave_any x D dm dd A2 n2 c2 hdm hn2 hrd1 hra1 (by rw [h.plen]; exact hvf) hc0 hnl h1.gst
 obtain ⟨R, hR⟩ : ∃ R, R = Gw.save S V.M x := ⟨_, rfl⟩
 have hT : St.saved S V x = (R.1, { V with M := R.2.1, only := V.only || R.2.1.broken }, R.2.2) := by rw [hR]; rfl
 rw [← hR] at hsv
 rw [hT]
 obtain ⟨S1, M1, er⟩ := R
 show Calls Tryz.prog 109 #[.pointer (some ⟨Y.s, 0, none⟩), x.val D dm dd A2 n2 c2] w fun e w' => e = .returned (.int .i64 (er : Int)) ∧ SgUpd X Y w w' S1 { V with M := M1, only := V.only || M1.broken }
 unfold GLeft at hsv
 simp only at hsv
 have hout : Y.s ∉ [Y.m] ++ X.foot ∧ ge ∉ [Y.m] ++ X.foot := ⟨fun hm => by
  rcases List.mem_append.1 hm with q | q
  ·exact h.apart.s (by rw [List.mem_singleton.1 q]; exact List.mem_cons_self)
  ·exact h.apart.x _ (Yw.mem_foot.2 (.inl rfl)) q, fun hm => by
  rcases List.mem_append.1 hm with q | q
  ·have := hsz Y.m (List.mem_append_right _ (Yw.mem_foot.2 (.inr (.inl rfl))))
   have := List.mem_singleton.1 q
   omega
  ·have := hsz _ (List.mem_append_left _ q)
   omega⟩
 have HV := Lib.hid hW
 have HG := Lib.hid hge
 have HSV := Lib.hid hsv
 have HO := Lib.hid hout
 have H1 := Lib.hid h1
 have HB := Lib.hid (Chg.of_below (below_drew hbA) (XY X Y))
 have HS0 : Hid (BoxO W.drew 90 Y.s (Y.cells X.d V) ∧ BoxO W.drew 163 ge #[.slice D dm dd, .slice A2 n2 c2, .int .i64 x.log, .int .u64 (x.floor : Int), .int .u64 (x.cert : Int), .int .u64 (x.at_ : Int), .int .u64 (x.lease : Int)].toList) := Lib.hid ⟨h1.box, hbx⟩
 clear hsv hW hge h h1 hrd hra hrd1 hra1 hbA hbx hout hsz hR hT
 unfold Ed.val at *
 go_enter Tryz.func109, Tryz.ntmps109
 go_wp2_with fail
 rw [← HV.out, ← HG.out]
 refine wp_region_held_drew (S := fun w' => BoxO w' 90 Y.s (Y.cells X.d V) ∧ BoxO w' 163 ge #[.slice D dm dd, .slice A2 n2 c2, .int .i64 x.log, .int .u64 (x.floor : Int), .int .u64 (x.cert : Int), .int .u64 (x.at_ : Int), .int .u64 (x.lease : Int)].toList) rfl HS0.out (fun hSw => ?_)
 refine wpT (i := 0) (v := ?vsv0) ?hsv0 hSw ?ksv0
 case hsv0 => (intro w hSw; (have k1 := hSw.1.cell 1; have e0 := hSw.2.cell 0; have e1 := hSw.2.cell 1; have e2 := hSw.2.cell 2; have e3 := hSw.2.cell 3; have e4 := hSw.2.cell 4; have e5 := hSw.2.cell 5; have e6 := hSw.2.cell 6; simp only [Yw.cells, gE0, gE1] at k1 e0 e1 e2 e3 e4 e5 e6); go_simp; try (with_reducible rfl))
 go_simp
 refine wpT (i := 1) (v := ?vsv1) ?hsv1 hSw ?ksv1
 case hsv1 => (intro w hSw; (have k1 := hSw.1.cell 1; have e0 := hSw.2.cell 0; have e1 := hSw.2.cell 1; have e2 := hSw.2.cell 2; have e3 := hSw.2.cell 3; have e4 := hSw.2.cell 4; have e5 := hSw.2.cell 5; have e6 := hSw.2.cell 6; simp only [Yw.cells, gE0, gE1] at k1 e0 e1 e2 e3 e4 e5 e6); go_simp; try (with_reducible rfl))
 go_simp
 refine wpT (i := 2) (v := ?vsv2) ?hsv2 hSw ?ksv2
 case hsv2 => (intro w hSw; (have k1 := hSw.1.cell 1; have e0 := hSw.2.cell 0; have e1 := hSw.2.cell 1; have e2 := hSw.2.cell 2; have e3 := hSw.2.cell 3; have e4 := hSw.2.cell 4; have e5 := hSw.2.cell 5; have e6 := hSw.2.cell 6; simp only [Yw.cells, gE0, gE1] at k1 e0 e1 e2 e3 e4 e5 e6); go_simp; try (with_reducible rfl))
 go_simp
 refine wpT (i := 3) (v := ?vsv3) ?hsv3 hSw ?ksv3
 case hsv3 => (intro w hSw; (have k1 := hSw.1.cell 1; have e0 := hSw.2.cell 0; have e1 := hSw.2.cell 1; have e2 := hSw.2.cell 2; have e3 := hSw.2.cell 3; have e4 := hSw.2.cell 4; have e5 := hSw.2.cell 5; have e6 := hSw.2.cell 6; simp only [Yw.cells, gE0, gE1] at k1 e0 e1 e2 e3 e4 e5 e6); go_simp; try (with_reducible rfl))
 go_simp
 refine wpT (i := 4) (v := ?vsv4) ?hsv4 hSw ?ksv4
 case hsv4 => (intro w hSw; (have k1 := hSw.1.cell 1; have e0 := hSw.2.cell 0; have e1 := hSw.2.cell 1; have e2 := hSw.2.cell 2; have e3 := hSw.2.cell 3; have e4 := hSw.2.cell 4; have e5 := hSw.2.cell 5; have e6 := hSw.2.cell 6; simp only [Yw.cells, gE0, gE1] at k1 e0 e1 e2 e3 e4 e5 e6); go_simp; try (with_reducible rfl))
 go_simp
 refine wpAnyH_ready (rs := [5]) (by kernel_rfl) (by simp) ?_
 refine AllReadyH.cons rfl (fun K hK => ?_) AllReadyH.nil
 go_simp
 with_reducible refine HSV.out.mono ?_
 rintro e w3 ⟨rfl, P3, X3, h3, hP3⟩
 go_simp
 refine hK.out _ _ ⟨hSw.1.chg h3.acc.c HO.out.1, hSw.2.chg h3.acc.c HO.out.2⟩ (fun hSn => ?_)
 clear hK K hSw
 have hSw := hSn
 clear hSn
 go_simp
 refine wpT (i := 6) (v := ?vsv6) ?hsv6 hSw ?ksv6
 case hsv6 => (intro w hSw; (have k1 := hSw.1.cell 1; have e0 := hSw.2.cell 0; have e1 := hSw.2.cell 1; have e2 := hSw.2.cell 2; have e3 := hSw.2.cell 3; have e4 := hSw.2.cell 4; have e5 := hSw.2.cell 5; have e6 := hSw.2.cell 6; simp only [Yw.cells, gE0, gE1] at k1 e0 e1 e2 e3 e4 e5 e6); go_simp; try (with_reducible rfl))
 go_simp
 refine wpAnyH_done (by kernel_rfl) ?_ _
 obtain ⟨hs, hc3, hf3⟩ := H1.out.gleft h3 hP3
 have c1 := hs.box.cell 1
 simp only [Yw.cells, gE0, gE1] at c1
 have hbk := gmbroken_any X3.d hs.man
 have hd3 := h3.acc.e
 have hcw := HB.out.trans hc3 (fun g hg => .inl hg)
 have hfw : ∀ g ∈ XY X3 { Y with P := P3 }, g ∈ XY X Y ∨ w.heap.size ≤ g := fun g hg => (hf3 g hg).imp id (fun q => Nat.le_trans HB.out.size q)
 have hPw : P3 = Y.P ∨ ∀ a, P3.a = some a → w.heap.size ≤ a.block := hP3.imp id (fun q a ha => Nat.le_trans HB.out.size (q a ha))
 have HPW := Lib.hid hPw
 cases hbr : M1.broken with
 | false =>
  rw [hbr] at hbk
  have hfin : SgUpd X Y w w3 S1 { V with M := M1, only := V.only || M1.broken } := ⟨X3, P3, hd3, by rw [hbr, Bool.or_false]; exact hs, hcw, hfw, hPw⟩
  have HF := Lib.hid hfin
  clear hbr
  have HBK := Lib.hid hbk
  clear hbk hs hc3 hf3 hP3 hSw HS0 HSV H1 hfin hcw hfw hPw h3
  go_wp2_with fail
  refine HBK.out.mono ?_
  rintro e w4 ⟨rfl, rfl⟩
  go_wp2
  go_ret
  exact ⟨rfl, HF.out⟩
 | true =>
  rw [hbr] at hbk
  have hcl := sclose_any hs er
  have HBK := Lib.hid hbk
  have HCL := Lib.hid hcl
  have HC3 := Lib.hid hcw
  have HF3 := Lib.hid hfw
  clear hbk hs hc3 hf3 hP3 hSw HS0 HSV H1 hcl hcw hfw hPw h3
  go_wp2_with fail
  refine HBK.out.mono ?_
  rintro e w4 ⟨rfl, rfl⟩
  go_wp2_with fail
  refine HCL.out.mono ?_
  rintro e w5 ⟨rfl, h5, hc5⟩
  have hfin : SgUpd X Y w w5 S1 { V with M := M1, only := V.only || M1.broken } := ⟨X3, P3, hd3, by rw [hbr, Bool.or_true]; exact h5, HC3.out.trans hc5 HF3.out, HF3.out, HPW.out⟩
  have HF := Lib.hid hfin
  clear hfin h5 hc5 HCL hbr
  go_wp2
  go_ret
  exact ⟨rfl, HF.out⟩
def SvUpdB (B : Nat) (X : Dw) (Y : Yw) (w w1 : World) (S1 : Sd) (V1 : Sv) : Prop := ∃ X1 Y1, X1.d = X.d ∧ Y1.s = Y.s ∧ SvAt w1 X1 S1 Y1 V1 ∧ Chg (XY X Y) w w1 ∧ ∀ g ∈ XY X1 Y1, g ∈ XY X Y ∨ B ≤ g
theorem SvUpdB.to (h : SvUpdB w.heap.size X Y w w1 S V) : SvUpd X Y w w1 S V := h
theorem SvUpdB.trans {B : Nat} (e1 : X1.d = X.d) (e2 : Y1.s = Y.s) (c : Chg (XY X Y) w w1) (hf : ∀ g ∈ XY X1 Y1, g ∈ XY X Y ∨ w.heap.size ≤ g) (hB : B ≤ w.heap.size) (k : SvUpdB B X1 Y1 w1 w2 S2 V2) : SvUpdB B X Y w w2 S2 V2 := by
 obtain ⟨X2, Y2, e3, e4, h, c2, hf2⟩ := k
 refine ⟨X2, Y2, e3.trans e1, e4.trans e2, h, c.trans c2 hf, fun g hg => ?_⟩
 rcases hf2 g hg with h1 | h1
 ·exact (hf g h1).imp id (Nat.le_trans hB)
 ·exact .inr h1
end
section
open Go Go.RowKit Go.Lib Go.Shelf
variable {w w1 w2 : World} {X X1 X2 : Dw} {S S1 S2 : Sd} {Y Y1 Y2 : Yw} {V V1 V2 : Sv}
def St.may1 (a b : Nat) : Prop := a ≤ 281474976710656 ∧ (a = 0 → b = 0)
def St.mayMeta (m was : Mt) : Prop := St.may1 m.floor was.floor ∧ St.may1 m.cert was.cert ∧ St.may1 m.at_ was.at_ ∧ St.may1 m.lease was.lease
def St.setMeta (S : Sd) (V : Sv) (m : Mt) : Sd × Sv × Nat := if V.only = true then (S, V, 14) else St.saved S V ⟨[], [], 0, m.floor, m.cert, m.at_, m.lease⟩
def pairs (m was : Mt) : List Value := [.int .u64 (m.floor : Int), .int .u64 (was.floor : Int), .int .u64 (m.cert : Int), .int .u64 (was.cert : Int), .int .u64 (m.at_ : Int), .int .u64 (was.at_ : Int), .int .u64 (m.lease : Int), .int .u64 (was.lease : Int)]
theorem pair_at {m was : Mt} (h : St.mayMeta m was) {k : Nat} (hk : k < 4) : ∃ a b : Nat, (pairs m was)[k * 2]? = some (.int .u64 (a : Int)) ∧ (pairs m was)[k * 2 + 1]? = some (.int .u64 (b : Int)) ∧ St.may1 a b := by
 obtain ⟨h0, h1, h2, h3⟩ := h
 match k, hk with
 | 0, _ => exact ⟨_, _, rfl, rfl, h0⟩
 | 1, _ => exact ⟨_, _, rfl, rfl, h1⟩
 | 2, _ => exact ⟨_, _, rfl, rfl, h2⟩
 | 3, _ => exact ⟨_, _, rfl, rfl, h3⟩
theorem SgUpd.up {w0 : World} (hb : Below w0.heap.size w0 w) (h : SgUpd X Y w w1 S1 V1) : SvUpdA X Y w0 w1 S1 V1 := let ⟨X', P', a, b, c, d, _⟩ := h; ⟨X', { Y with P := P' }, a, rfl, b, (Chg.of_below hb _).trans c (fun g hg => .inl hg), fun g hg => (d g hg).imp (fun z => z) (Nat.le_trans hb.size), .inl rfl⟩
theorem ssetmeta_any (h : SvAt w X S Y V) (m : Mt) (hm : St.mayMeta m (St.meta_ V)) (hvf : V.M.v.files.length ≤ 40) (hc0 : V.M.count ≤ 1000000000) (hnl : V.M.name.length ≤ 1000) :
  Calls Tryz.prog 47 #[.pointer (some ⟨Y.s, 0, none⟩), m.val] w (SvPostA X Y w (St.setMeta S V m)) := by
 obtain ⟨R, hR⟩ : ∃ R, R = St.setMeta S V m := ⟨_, rfl⟩
 have hR0 := hR
 unfold St.setMeta at hR
 rw [← hR0]
 clear hR0
 have hb1 := (Below.refl w.heap.size w).alloc (Nat.le_refl _) (.cells #[.int .u64 (m.floor : Int), .int .u64 (m.cert : Int), .int .u64 (m.at_ : Int), .int .u64 (m.lease : Int)] 32)
 have hbx := BoxO.new w #[.int .u64 (m.floor : Int), .int .u64 (m.cert : Int), .int .u64 (m.at_ : Int), .int .u64 (m.lease : Int)] 32
 have h1 := h.below hb1
 have c10 := h1.box.cell 10
 simp only [Yw.cells, gE0, gE1] at c10
 have hme := smeta_any h1 (by omega)
 obtain ⟨b, hb⟩ : ∃ b, b = St.meta_ V := ⟨_, rfl⟩
 rw [← hb] at hme hm
 unfold Mt.val at hme ⊢
 have HH := Lib.hid h
 have HB := Lib.hid (And.intro hb1 hbx)
 have HME := Lib.hid hme
 have HM := Lib.hid hm
 cases ho : V.only with
 | true =>
  rw [if_pos ho] at hR
  rw [ho] at c10
  have HZ : Hid (∀ w', Below w.heap.size w w' → SvPostA X Y w R (.returned (.int .i64 14)) w') := Lib.hid (fun w' hq => by rw [hR]; exact ⟨rfl, SvUpdA.same h hq⟩)
  have HY := Lib.hid (HZ.out _ hb1)
  clear hR ho h h1 hme hm hb HZ hb1 hbx
  go_enter Tryz.func47, Tryz.ntmps47
  go_wp2
  go_ret
  exact HY.out
 | false =>
 rw [if_neg (by simp [ho])] at hR
 rw [ho] at c10
 have HR := Lib.hid hR
 clear hR ho h h1 hme hm hb hb1 hbx
 go_enter Tryz.func47, Tryz.ntmps47
 go_wp2_with fail
 refine HME.out.mono ?_
 rintro e w2 ⟨rfl, hb2⟩
 have hx2 := HB.out.2.below hb2
 have hbz := later_ HB.out.1 hb2
 have hb3 := (Below.refl w2.heap.size w2).alloc (Nat.le_refl _) (.cells #[.int .u64 (b.floor : Int), .int .u64 (b.cert : Int), .int .u64 (b.at_ : Int), .int .u64 (b.lease : Int)] 32)
 have hx3 := hx2.below hb3
 have hbq := later_ hbz hb3
 have s0 := hx3.cell 0
 have s1 := hx3.cell 1
 have s2 := hx3.cell 2
 have s3 := hx3.cell 3
 simp only [gE0, gE1] at s0 s1 s2 s3
 have hP := BoxO.new (w2.alloc (.cells #[.int .u64 (b.floor : Int), .int .u64 (b.cert : Int), .int .u64 (b.at_ : Int), .int .u64 (b.lease : Int)] 32)) (pairs m b).toArray 183
 have hx4 := hx3.alloc (.cells (pairs m b).toArray 183)
 have hb4 := later_ hbq ((Below.refl _ _).alloc (Nat.le_refl _) (.cells (pairs m b).toArray 183))
 rw [World.size_alloc] at hP
 unfold pairs at hP hx4 hb4
 obtain ⟨W, hW⟩ : ∃ W, W = (w2.alloc (.cells #[.int .u64 (b.floor : Int), .int .u64 (b.cert : Int), .int .u64 (b.at_ : Int), .int .u64 (b.lease : Int)] 32)).alloc (.cells [.int .u64 (m.floor : Int), .int .u64 (b.floor : Int), .int .u64 (m.cert : Int), .int .u64 (b.cert : Int), .int .u64 (m.at_ : Int), .int .u64 (b.at_ : Int), .int .u64 (m.lease : Int), .int .u64 (b.lease : Int)].toArray 183) := ⟨_, rfl⟩
 rw [← hW] at hP hx4 hb4
 have HP : Hid (BoxO W 183 (w2.heap.size + 1) (pairs m b)) := Lib.hid hP
 have HX4 := Lib.hid hx4
 have HB4 := Lib.hid hb4
 have HW := Lib.hid hW
 clear HME hP hx4 hb4 hW hx2 hb2 hbz hb3 hx3 hbq
 go_wp2_with fail
 simp only [List.toArray] at HW
 rw [← HW.out]
 generalize w2.heap.size + 1 = gp at *
 generalize w.heap.size = gm at HX4
 clear s0 s1 s2 s3
 go_loopw [36] (fun i wr => ∃ k : Nat, k ≤ 4 ∧ i = .int .i64 (k : Int) ∧ Below W.heap.size W wr) (fun i _ => 4 - (intOf i).toNat)
 case atStart => exact ⟨0, Nat.zero_le _, rfl, Below.refl _ _⟩
 case round =>
  obtain ⟨k, hk, rfl, hbl⟩ := hrel
  by_cases hlt : k < 4
  ·obtain ⟨x, y, hx, hy, hxm, hxy⟩ := pair_at HM.out hlt
   have q0 := (HP.out.below hbl).cell (k * 2)
   have q1 := (HP.out.below hbl).cell (k * 2 + 1)
   rw [hx] at q0
   rw [hy] at q1
   have hkn : (k : Int) < 4 := by omega
   have hwk : IntKind.i64.wrap (k : Int) = (k : Int) := IntWalk.i64_in _ (by omega)
   have e1 : ((281474976710656 : Int) < (x : Int)) = False := eq_false (by omega)
   have hbz := hbl.alloc hbl.size (.cells #[.int .u64 (x : Int), .int .u64 (y : Int)] 183)
   by_cases hx0 : x = 0
   ·obtain rfl := hxy hx0
    subst hx0
    clear hx hy hxm hxy
    go_wp2
    go_roundw
    case rel => exact ⟨k + 1, by omega, by go_num, hbz⟩
    case measure => simp [intOf]; omega
   ·have e2 : ((x : Int) == 0) = false := by simp; omega
    clear hx hy hxm hxy
    go_wp2
    go_roundw
    case rel => exact ⟨k + 1, by omega, by go_num, hbz⟩
    case measure => simp [intOf]; omega
  ·have hkn : ((k : Int) < 4) = False := eq_false (by omega)
   have hb5 := HB4.out.trans (hbl.mono HB4.out.size)
   have h5 := HH.out.below hb5
   have hx5 := HX4.out.below hbl
   have s0 := hx5.cell 0
   have s1 := hx5.cell 1
   have s2 := hx5.cell 2
   have s3 := hx5.cell 3
   simp only [gE0, gE1] at s0 s1 s2 s3
   have hsv := ssave_any h5 ⟨[], [], 0, m.floor, m.cert, m.at_, m.lease⟩ none 0 0 none 0 0 (by omega) (by omega) Row.nil_ Row.nil_ hvf hc0 hnl
   unfold Ed.val at hsv
   have HSV := Lib.hid hsv
   have HB5 := Lib.hid hb5
   clear hsv h5 hb5 hx5
   go_wp2_with fail
   refine HSV.out.mono ?_
   rintro e w6 ⟨rfl, hg⟩
   have HZ : Hid (SvPostA X Y w R (.returned (.int .i64 ((St.saved S V ⟨[], [], 0, m.floor, m.cert, m.at_, m.lease⟩).2.2 : Int))) w6) := Lib.hid (by
    rw [HR.out]
    exact ⟨rfl, hg.up HB5.out⟩)
   clear hg HSV s0 s1 s2 s3
   go_wp2
   go_ret
   exact HZ.out
end
section
open Go Go.RowKit Go.Lib Go.Shelf
variable {w w1 w2 : World} {X X1 X2 : Dw} {S S1 S2 : Sd} {Y Y1 Y2 : Yw} {V V1 V2 : Sv} {G F : List Nat}
def NoInt (w : World) (G : List Nat) : Prop := ∀ a : Addr, a.block ∈ G → ∀ v, w.cell? a = some v → ∃ b, v = .bool b
def noBool (xs : List Value) : Prop := ∀ v ∈ xs, ∀ b, v ≠ .bool b
theorem itc_noBool (l : List It) : noBool (itc l) := by
 intro v hv b e
 subst e
 unfold itc at hv
 rw [List.mem_flatMap] at hv
 obtain ⟨x, _, h⟩ := hv
 simp [It.cells] at h
theorem fcells_noBool (l : List (Int × Int)) : noBool (fcells l) := by
 intro v hv b e
 subst e
 unfold fcells at hv
 rw [List.mem_flatMap] at hv
 obtain ⟨x, _, h⟩ := hv
 simp at h
theorem row_tick {B n size : Nat} {A : Option Addr} {xs : List Value} (h : Row B w A n size xs) (hx : noBool xs) (hn : NoInt w G) (c : Chg G w w1) (hB : B ≤ w.heap.size) : Row B w1 A n size xs :=
 row_chg c h hB fun j hj a ha hm => by
  obtain ⟨a', e, _, hc⟩ := h.cell j hj
  rw [ha] at e
  injection e with e
  subst e
  obtain ⟨b, hb⟩ := hn _ (by rw [add_block]; exact hm) _ hc
  exact hx _ (List.getElem_mem hj) b hb
def back (w w1 : World) (G : List Nat) : World := { w1 with heap := w1.heap.mapIdx fun i o => if i ∈ G then (w.heap[i]?).getD o else o }
theorem back_in {k : Nat} (hk : k ∈ G) (hw : k < w.heap.size) (h1 : k < w1.heap.size) : (back w w1 G).heap[k]? = w.heap[k]? := by
 unfold back
 simp only [Array.getElem?_mapIdx, Array.getElem?_eq_getElem h1, Option.map_some, if_pos hk, Array.getElem?_eq_getElem hw, Option.getD_some]
theorem back_out {k : Nat} (hk : k ∉ G) : (back w w1 G).heap[k]? = w1.heap[k]? := by
 unfold back
 simp only [Array.getElem?_mapIdx, if_neg hk]
 cases w1.heap[k]? <;> rfl
theorem back_size : (back w w1 G).heap.size = w1.heap.size := by simp [back]
theorem Fixed.tick {A : Option Addr} {n c : Nat} {l : List It} (h : Fixed F w fun w => Its 0 w A n c l) (hn : NoInt w G) (k : Chg G w w1) (hG : ∀ g ∈ G, g < w.heap.size) : Fixed F w1 fun w => Its 0 w A n c l := fun w2 k2 => by
 have hsz := Nat.le_trans k.size k2.size
 have hb : ∀ g ∈ G, (back w w2 G).heap[g]? = w.heap[g]? := fun g hg => back_in hg (hG g hg) (Nat.lt_of_lt_of_le (hG g hg) hsz)
 have h1 := h (back w w2 G) ⟨k2.os.trans k.os, k2.tape.trans k.tape, k2.output.trans k.output, by rw [back_size]; exact hsz, fun g hg hF => by
  by_cases hm : g ∈ G
  ·exact hb g hm
  ·rw [back_out hm, k2.block g (Nat.lt_of_lt_of_le hg k.size) hF, k.block g hg hm]⟩
 refine ⟨?_, h1.nc, h1.cm, h1.low⟩
 have hr := h1.row
 rw [back_size] at hr
 exact row_tick hr (itc_noBool l) (fun a ha v hv => hn a ha v (by rw [← hv]; exact (World.cell?_of_block (hb _ ha)).symm)) (w1 := w2) (G := G) ⟨rfl, rfl, rfl, by rw [back_size]; exact Nat.le_refl _, fun g _ hm => (back_out hm).symm⟩ (by rw [back_size]; exact Nat.le_refl _)
theorem TabsAt.none {T : Sl} {q : List Tq} (h : TabsAt w T q []) (w1 : World) : TabsAt w1 T q [] := by
 obtain ⟨h1, h2, h3, h4, h5, h6⟩ := h
 have hq : q = [] := List.map_eq_nil_iff.1 h1
 subst hq
 exact ⟨rfl, ⟨h2.len, fun j hj => absurd hj (by simp [hcells])⟩, h3, h4, h5, fun p hp => by cases hp⟩
theorem SvAt.tick (h : SvAt w X S Y V) (ht : V.tabs = []) (hn : NoInt w G) (c : Chg G w w1) (hG : ∀ g ∈ G, g ∉ XY X Y ∧ NG ≤ g ∧ g < w.heap.size) : SvAt w1 X S Y V := by
 have hf : ∀ g ∈ Y.foot, g ∉ G := fun g h1 h2 => (hG g h2).1 (List.mem_append_right _ h1)
 refine ⟨h.dm.chg c (fun g hg => ⟨fun hm => (hG g hg).1 (List.mem_append_left _ hm), (hG g hg).2.1⟩), h.box.chg c (hf _ (Yw.mem_foot.2 (.inl rfl))), h.man.chg c (hf _ (Yw.mem_foot.2 (.inr (.inl rfl)))), ?_, h.pout, h.log.chg c (hf _ (Yw.mem_foot.2 (.inr (.inr (.inl rfl))))), h.mem.chg c (fun g hg => hf g (Yw.mem_foot.2 ?_)), h.its, ?_, h.st.tick hn c (fun g hg => (hG g hg).2.2), h.apart, h.ng⟩
 ·exact ⟨(row_tick h.row.row (fcells_noBool _) hn c (Nat.le_refl _)).up c.size, h.row.nc, h.row.cm, h.row.nb, h.row.away⟩
 ·rcases List.mem_cons.1 hg with rfl | hg
  ·exact .inr (.inr (.inr (.inl rfl)))
  ·exact .inr (.inr (.inr (.inr hg)))
 ·have := h.tabs.now
  rw [ht] at this ⊢
  exact fun w2 _ => this.none w2
structure NdAt (w : World) (X : Dw) (S : Sd) (Y : Yw) (V : Sv) (nb : Nat) (id : Int) (now grace : Nat) : Prop where
 at_ : SvAt w X S Y V
 box : BoxO w 100 nb [.int .i64 id, .pointer (some ⟨Y.s, 0, none⟩), .int .u64 (now : Int), .int .u64 (grace : Int)]
 out : nb ∉ XY X Y
section
variable {nb now grace : Nat} {id : Int}
theorem NdAt.below (h : NdAt w X S Y V nb id now grace) (hb : Below w.heap.size w w1) : NdAt w1 X S Y V nb id now grace := ⟨h.at_.below hb, h.box.below hb, h.out⟩
theorem NdAt.tick (h : NdAt w X S Y V nb id now grace) (ht : V.tabs = []) (hn : NoInt w G) (c : Chg G w w1) (hG : ∀ g ∈ G, g ∉ XY X Y ∧ NG ≤ g ∧ g < w.heap.size ∧ g ≠ nb) : NdAt w1 X S Y V nb id now grace :=
 ⟨h.at_.tick ht hn c (fun g hg => ⟨(hG g hg).1, (hG g hg).2.1, (hG g hg).2.2.1⟩), h.box.chg c (fun hm => (hG nb hm).2.2.2 rfl), h.out⟩
def NdUpd (X : Dw) (Y : Yw) (w w1 : World) (S1 : Sd) (V1 : Sv) (nb : Nat) (id : Int) (now grace : Nat) : Prop := ∃ X1 Y1, X1.d = X.d ∧ Y1.s = Y.s ∧ NdAt w1 X1 S1 Y1 V1 nb id now grace ∧ Chg (XY X Y) w w1 ∧ (∀ g ∈ XY X1 Y1, g ∈ XY X Y ∨ w.heap.size ≤ g) ∧ NewA w Y Y1
theorem NdAt.upd (h : NdAt w X S Y V nb id now grace) (hu : SvUpdA X Y w w1 S1 V1) : NdUpd X Y w w1 S1 V1 nb id now grace := by
 obtain ⟨X1, Y1, e, es, h1, c, f, na⟩ := hu
 refine ⟨X1, Y1, e, es, ⟨h1, by rw [es]; exact h.box.chg c h.out, fun hm => ?_⟩, c, f, na⟩
 rcases f nb hm with q | q
 ·exact h.out q
 ·have := h.box.lt
  omega
theorem NdUpd.same (h : NdAt w X S Y V nb id now grace) (hb : Below w.heap.size w w1) : NdUpd X Y w w1 S V nb id now grace := ⟨X, Y, rfl, rfl, h.below hb, Chg.of_below hb _, fun _ hg => .inl hg, .inl rfl⟩
theorem NdUpd.trans (e1 : X1.d = X.d) (e2 : Y1.s = Y.s) (c : Chg (XY X Y) w w1) (hf : ∀ g ∈ XY X1 Y1, g ∈ XY X Y ∨ w.heap.size ≤ g) (hn : NewA w Y Y1) (k : NdUpd X1 Y1 w1 w2 S2 V2 nb id now grace) : NdUpd X Y w w2 S2 V2 nb id now grace := by
 obtain ⟨X2, Y2, e3, e4, h, c2, hf2, n2⟩ := k
 refine ⟨X2, Y2, e3.trans e1, e4.trans e2, h, c.trans c2 hf, fun g hg => ?_, hn.trans n2 c.size⟩
 rcases hf2 g hg with h1 | h1
 ·exact hf g h1
 ·exact .inr (Nat.le_trans c.size h1)
theorem NdUpd.low {B : Nat} (k : NdUpd X Y w1 w2 S2 V2 nb id now grace) (hb : Below w.heap.size w w1) : NdUpd X Y w w2 S2 V2 nb id now grace := k.trans rfl rfl (Chg.of_below hb _) (fun _ hg => .inl hg) (.inl rfl)
end
structure Nrm (V : Sv) : Prop where
 tabs : V.tabs = []
 st : Stt V.st
 len : V.st.length ≤ 1500
 sz : V.sz ≤ 1000000000
 ct : V.ct ≤ 1000000
 mem : V.mem.length ≤ 100000
 nm : V.nm.length ≤ 1000
 files : V.M.v.files.length ≤ 40
 count : V.M.count ≤ 1000000
 name : V.M.name.length ≤ 1000
end
section
open Go Go.RowKit Go.Lib
def upto (l : List It) (v : Nat) : List It := l.filter fun a => decide (a.v ≤ v)
theorem upto1_any (a : It) (v b : Nat) (w : World) (hc : w.cell? ⟨b, 0, none⟩ = some (.int .u64 (v : Int))) :
  Calls Tryz.prog 111 (#[a.val] ++ #[.pointer (some ⟨b, 0, none⟩)]) w fun e w' => e = .returned (.bool (decide (a.v ≤ v))) ∧ Below w.heap.size w w' := by
 have hb0 := (Below.refl w.heap.size w).alloc (Nat.le_refl _) (.cells #[.int .i64 a.s, .int .i64 a.k, .int .u64 (a.t : Int), .int .u64 (a.v : Int), .int .i64 a.x] 27)
 have hc1 : ∀ o, (w.alloc o).cell? ⟨b, 0, none⟩ = some (.int .u64 (v : Int)) := fun o => (World.cell?_alloc_lt w o _ (World.block_lt_of_cell? w _ hc)).trans hc
 unfold It.val
 go_enter Tryz.func111, Tryz.ntmps111
 go_wp2
 go_ret
 exact ⟨rfl, hb0⟩
theorem supto_any (A : Option Addr) (n c : Nat) (l : List It) (v : Nat) (w : World) (hn : n ≤ 1000000) (hr : Row w.heap.size w A n 5 (itc l)) :
  Calls Tryz.prog 48 #[.slice A n c, .int .u64 (v : Int)] w (JoinPost w (upto l v)) := by
 have hbV := (Below.refl w.heap.size w).alloc (Nat.le_refl _) (.cells #[.int .u64 (v : Int)] 25)
 have hbx := BoxO.new w #[.int .u64 (v : Int)] 25
 have ho := only_any 111 (fun _ _ => rfl) #[.pointer (some ⟨w.heap.size, 0, none⟩)] (fun a => decide (a.v ≤ v)) A n c l (w.alloc (.cells #[.int .u64 (v : Int)] 25)) hn ((hr.below hbV).up hbV.size)
  (fun x w1 hw => upto1_any x v w.heap.size w1 (by rw [(hbx.below hw).cell]; rfl))
 have HO := Lib.hid ho
 unfold upto
 clear ho hr hbx
 go_enter Tryz.func48, Tryz.ntmps48
 go_wp2_with fail
 refine HO.out.mono ?_
 rintro e w1 ⟨A1, k, rfl, h1, h2, h3⟩
 have H := Lib.hid (show JoinPost w (l.filter fun a => decide (a.v ≤ v)) (.returned (.slice A1 k k)) w1 from ⟨A1, k, rfl, h1, ⟨h2.row, h2.nc, h2.cm, fun p hp => Nat.le_trans hbV.size (h2.low p hp)⟩, later_ hbV h3⟩)
 clear h1 h2 h3 HO hbV
 go_wp2
 go_ret
 exact H.out
theorem iequal_any (A : Option Addr) (n c : Nat) (a : List It) (B : Option Addr) (m d : Nat) (b : List It) (w : World) (hn : n ≤ 1000000) (hm : m ≤ 1000000) (ra : Row w.heap.size w A n 5 (itc a)) (rb : Row w.heap.size w B m 5 (itc b)) :
  Calls Tryz.prog 175 #[.slice A n c, .slice B m d] w fun e w' => e = .returned (.bool (decide (a = b))) ∧ Below w.heap.size w w' := by
 have hna := ra.itlen
 have hmb := rb.itlen
 obtain ⟨r, hr⟩ : ∃ r, r = decide (a = b) := ⟨_, rfl⟩
 rw [← hr]
 by_cases hnm : n = m
 ·subst hnm
  have HR := Lib.hid hr
  clear hr
  go_enter Tryz.func175, Tryz.ntmps175
  go_wp2
  go_loopw [13] (fun i wr => ∃ k : Nat, k ≤ n ∧ i = .int .i64 (k : Int) ∧ Hid (a.take k = b.take k) ∧ Below w.heap.size w wr) (fun i _ => n - (intOf i).toNat)
  case atStart => exact ⟨0, Nat.zero_le _, rfl, Lib.hid rfl, Below.refl _ _⟩
  case round =>
   obtain ⟨k, hk, rfl, HE, hbl⟩ := hrel
   by_cases hlt : k < n
   ·obtain ⟨p, hl, rfl, hbk, hd⟩ := (ra.below hbl).it hlt
    obtain ⟨p2, hl2, rfl, hbk2, hd2⟩ := (rb.below hbl).it hlt
    have hte : a.take (k + 1) = a.take k ++ [a[k]] := List.take_succ_eq_append_getElem hl
    have htf : b.take (k + 1) = b.take k ++ [b[k]] := List.take_succ_eq_append_getElem hl2
    have hne : a[k] ≠ b[k] → a ≠ b := fun h e => by subst e; exact h rfl
    generalize a[k] = x at *
    generalize b[k] = y at *
    have hnq := it_neq x y
    have hkc : ∀ w', Below wr.heap.size wr w' → (w'.cell? (p.add (k * 5)) = some (.int .i64 x.s) ∧ w'.cell? ⟨(p.add (k * 5)).block, (p.add (k * 5)).off + 1, none⟩ = some (.int .i64 x.k) ∧ w'.cell? ⟨(p.add (k * 5)).block, (p.add (k * 5)).off + 2, none⟩ = some (.int .u64 (x.t : Int)) ∧ w'.cell? ⟨(p.add (k * 5)).block, (p.add (k * 5)).off + 3, none⟩ = some (.int .u64 (x.v : Int)) ∧ w'.cell? ⟨(p.add (k * 5)).block, (p.add (k * 5)).off + 4, none⟩ = some (.int .i64 x.x)) ∧ w'.cell? (p2.add (k * 5)) = some (.int .i64 y.s) ∧ w'.cell? ⟨(p2.add (k * 5)).block, (p2.add (k * 5)).off + 1, none⟩ = some (.int .i64 y.k) ∧ w'.cell? ⟨(p2.add (k * 5)).block, (p2.add (k * 5)).off + 2, none⟩ = some (.int .u64 (y.t : Int)) ∧ w'.cell? ⟨(p2.add (k * 5)).block, (p2.add (k * 5)).off + 3, none⟩ = some (.int .u64 (y.v : Int)) ∧ w'.cell? ⟨(p2.add (k * 5)).block, (p2.add (k * 5)).off + 4, none⟩ = some (.int .i64 y.x) := fun w' hb => by
     have h1 := hd.below (B := wr.heap.size) (w' := w') (Nat.lt_of_lt_of_le hbk hbl.size) hb
     have h2 := hd2.below (B := wr.heap.size) (w' := w') (Nat.lt_of_lt_of_le hbk2 hbl.size) hb
     exact ⟨⟨h1.c0, h1.c1, h1.c2, h1.c3, h1.c4⟩, h2.c0, h2.c1, h2.c2, h2.c3, h2.c4⟩
    have KC := Lib.hid hkc
    have HNE := Lib.hid hne
    have HT := Lib.hid (And.intro hte htf)
    have hwk : IntKind.i64.wrap (k : Int) = (k : Int) := IntWalk.i64_in _ (by omega)
    have hkn : (k : Int) < (n : Int) := by omega
    clear hkc hne hte htf hd hd2 hnq
    by_cases hxy : x = y
    ·have H1 := Lib.hid (show a.take (k + 1) = b.take (k + 1) by rw [HT.out.1, HT.out.2, HE.out, hxy])
     subst hxy
     go_wp2_with fail
     refine wp_region_held_drew (S := fun w' => Below wr.heap.size wr w') rfl (below_drew (Below.refl _ _)) (fun hSw => ?_)
     refine wpT (i := 0) (v := ?vea0) ?hea0 hSw ?kea0
     case hea0 => (intro w hSw; (obtain ⟨⟨c0, c1, c2, c3, c4⟩, d0, d1, d2, d3, d4⟩ := KC.out w hSw); go_simp; try (with_reducible rfl))
     go_simp
     refine wpT (i := 1) (v := ?vea1) ?hea1 hSw ?kea1
     case hea1 => (intro w hSw; (obtain ⟨⟨c0, c1, c2, c3, c4⟩, d0, d1, d2, d3, d4⟩ := KC.out w hSw); go_simp; try (with_reducible rfl))
     go_simp
     refine wpT (i := 2) (v := ?vea2) ?hea2 hSw ?kea2
     case hea2 => (intro w hSw; (obtain ⟨⟨c0, c1, c2, c3, c4⟩, d0, d1, d2, d3, d4⟩ := KC.out w hSw); go_simp; try (with_reducible rfl))
     go_simp
     refine wpT (i := 3) (v := ?vea3) ?hea3 hSw ?kea3
     case hea3 => (intro w hSw; (obtain ⟨⟨c0, c1, c2, c3, c4⟩, d0, d1, d2, d3, d4⟩ := KC.out w hSw); go_simp; try (with_reducible rfl))
     go_simp
     refine wpT (i := 4) (v := ?vea4) ?hea4 hSw ?kea4
     case hea4 => (intro w hSw; (obtain ⟨⟨c0, c1, c2, c3, c4⟩, d0, d1, d2, d3, d4⟩ := KC.out w hSw); go_simp; try (with_reducible rfl))
     go_simp
     refine wpT (i := 5) (v := ?vea5) ?hea5 hSw ?kea5
     case hea5 => (intro w hSw; (obtain ⟨⟨c0, c1, c2, c3, c4⟩, d0, d1, d2, d3, d4⟩ := KC.out w hSw); go_simp; try (with_reducible rfl))
     go_simp
     refine wpT (i := 6) (v := ?vea6) ?hea6 hSw ?kea6
     case hea6 => (intro w hSw; (obtain ⟨⟨c0, c1, c2, c3, c4⟩, d0, d1, d2, d3, d4⟩ := KC.out w hSw); go_simp; try (with_reducible rfl))
     go_simp
     refine wpT (i := 7) (v := ?vea7) ?hea7 hSw ?kea7
     case hea7 => (intro w hSw; (obtain ⟨⟨c0, c1, c2, c3, c4⟩, d0, d1, d2, d3, d4⟩ := KC.out w hSw); go_simp; try (with_reducible rfl))
     go_simp
     refine wpT (i := 8) (v := ?vea8) ?hea8 hSw ?kea8
     case hea8 => (intro w hSw; (obtain ⟨⟨c0, c1, c2, c3, c4⟩, d0, d1, d2, d3, d4⟩ := KC.out w hSw); go_simp; try (with_reducible rfl))
     go_simp
     refine wpAnyH_done (by kernel_rfl) ?_ _
     have hby := hbl.trans (hSw.mono hbl.size)
     clear hSw KC
     go_wp2
     go_roundw
     case rel => exact ⟨k + 1, by omega, by go_num, H1.out, hby⟩
     case measure => simp [intOf]; omega
    ·have hrf : r = false := by
      rw [HR.out]
      simpa using HNE.out hxy
     have H1 := Lib.hid hrf
     have HIF := Lib.hid (fun (α : Type) (A B : α) => it_if hxy A B)
     clear hrf hxy
     go_wp2_with fail
     refine wp_region_held_drew (S := fun w' => Below wr.heap.size wr w') rfl (below_drew (Below.refl _ _)) (fun hSw => ?_)
     refine wpT (i := 0) (v := ?veb0) ?heb0 hSw ?keb0
     case heb0 => (intro w hSw; (obtain ⟨⟨c0, c1, c2, c3, c4⟩, d0, d1, d2, d3, d4⟩ := KC.out w hSw; have hif := HIF.out); go_simp; try (with_reducible rfl))
     go_simp
     refine wpT (i := 1) (v := ?veb1) ?heb1 hSw ?keb1
     case heb1 => (intro w hSw; (obtain ⟨⟨c0, c1, c2, c3, c4⟩, d0, d1, d2, d3, d4⟩ := KC.out w hSw; have hif := HIF.out); go_simp; try (with_reducible rfl))
     go_simp
     refine wpT (i := 2) (v := ?veb2) ?heb2 hSw ?keb2
     case heb2 => (intro w hSw; (obtain ⟨⟨c0, c1, c2, c3, c4⟩, d0, d1, d2, d3, d4⟩ := KC.out w hSw; have hif := HIF.out); go_simp; try (with_reducible rfl))
     go_simp
     refine wpT (i := 3) (v := ?veb3) ?heb3 hSw ?keb3
     case heb3 => (intro w hSw; (obtain ⟨⟨c0, c1, c2, c3, c4⟩, d0, d1, d2, d3, d4⟩ := KC.out w hSw; have hif := HIF.out); go_simp; try (with_reducible rfl))
     go_simp
     refine wpT (i := 4) (v := ?veb4) ?heb4 hSw ?keb4
     case heb4 => (intro w hSw; (obtain ⟨⟨c0, c1, c2, c3, c4⟩, d0, d1, d2, d3, d4⟩ := KC.out w hSw; have hif := HIF.out); go_simp; try (with_reducible rfl))
     go_simp
     refine wpT (i := 5) (v := ?veb5) ?heb5 hSw ?keb5
     case heb5 => (intro w hSw; (obtain ⟨⟨c0, c1, c2, c3, c4⟩, d0, d1, d2, d3, d4⟩ := KC.out w hSw; have hif := HIF.out); go_simp; try (with_reducible rfl))
     go_simp
     refine wpT (i := 6) (v := ?veb6) ?heb6 hSw ?keb6
     case heb6 => (intro w hSw; (obtain ⟨⟨c0, c1, c2, c3, c4⟩, d0, d1, d2, d3, d4⟩ := KC.out w hSw; have hif := HIF.out); go_simp; try (with_reducible rfl))
     go_simp
     refine wpT (i := 7) (v := ?veb7) ?heb7 hSw ?keb7
     case heb7 => (intro w hSw; (obtain ⟨⟨c0, c1, c2, c3, c4⟩, d0, d1, d2, d3, d4⟩ := KC.out w hSw; have hif := HIF.out); go_simp; try (with_reducible rfl))
     go_simp
     refine wpT (i := 8) (v := ?veb8) ?heb8 hSw ?keb8
     case heb8 => (intro w hSw; (obtain ⟨⟨c0, c1, c2, c3, c4⟩, d0, d1, d2, d3, d4⟩ := KC.out w hSw; have hif := HIF.out); go_simp; try (with_reducible rfl))
     go_simp
     refine wpAnyH_done (by kernel_rfl) ?_ _
     have hby := hbl.trans (hSw.mono hbl.size)
     clear hSw KC
     go_wp2
     go_ret
     exact ⟨ret_bo H1.out.symm, hby⟩
   ·have hall : r = true := by
     have := HE.out
     rw [List.take_of_length_le (by omega), List.take_of_length_le (by omega)] at this
     rw [HR.out, this]
     simp
    have H1 := Lib.hid hall
    clear hall
    go_wp2
    go_ret
    exact ⟨ret_bo H1.out.symm, hbl⟩
 ·have hne : r = false := by
   rw [hr]
   have : a ≠ b := fun e => hnm (by rw [← hna, ← hmb, e])
   simpa using this
  have e1 : ((n : Int) == (m : Int)) = false := by rw [beq_eq_false_iff_ne]; omega
  have H1 := Lib.hid hne
  clear hne hr
  go_enter Tryz.func175, Tryz.ntmps175
  go_wp2
  go_ret
  exact ⟨ret_bo H1.out.symm, Below.refl _ _⟩
theorem ssame_any (A : Option Addr) (n c : Nat) (a : List It) (B : Option Addr) (m d : Nat) (b : List It) (w : World) (hn : n ≤ 1000000) (hm : m ≤ 1000000) (ra : Row w.heap.size w A n 5 (itc a)) (rb : Row w.heap.size w B m 5 (itc b)) :
  Calls Tryz.prog 105 #[.slice A n c, .slice B m d] w fun e w' => e = .returned (.bool (decide (a = b))) ∧ Below w.heap.size w w' := by
 have HE := Lib.hid (iequal_any A n c a B m d b w hn hm ra rb)
 clear ra rb
 go_enter Tryz.func105, Tryz.ntmps105
 go_wp2_with fail
 refine HE.out.mono ?_
 rintro e w1 ⟨rfl, h1⟩
 go_wp2
 go_ret
 exact ⟨rfl, h1⟩
end
section
open Go Go.RowKit Go.Lib Go.Shelf
attribute [local go_sem] Oper.semAt_some
section
variable {F : Fence} {n : Nat} {P : Program}
def SeqTwo {α : Type} (F : Fence) (n : Nat) (P : Program) (gf : Nat) (lb : Array Value) (encs : α → Array Value) (Kp : World → World → Prop) (S Sp : List α → Prop) (N : Nat) (w0 : World) : Prop :=
 ∀ (l : Nat) (J Jx : List α → World → Prop) (W : World), Below w0.heap.size w0 W → (∀ pre W, J pre W → J pre W.drew) →
  (∀ pre x W, J pre W → pre.length < N → YieldAt F (n - 1) P l (encs x) W fun e W' => (e = .returned (.bool true) ∧ J (pre ++ [x]) W' ∧ Kp W W') ∨ (e = .returned (.bool false) ∧ Jx (pre ++ [x]) W')) → J [] W →
  CallsIn F n P gf (#[.func (.yield l) #[] #[]] ++ lb) W fun e W' => (∃ v, e = .returned v) ∧ ((∃ ys, S ys ∧ J ys W') ∨ (∃ pre, Sp pre ∧ Jx pre W'))
theorem chg_put {B l : Nat} {W : World} (hl : l = B ∨ l = B + 1) (o : Obj) : Chg [B, B + 1] W (W.putObj l o) := ⟨rfl, rfl, rfl, by simp, fun g _ hg => World.putObj_heap_other (fun e => hg (by subst e; rcases hl with rfl | rfl <;> simp))⟩
def LoopAt (B : Nat) (W : World) : Prop := W.heap[B]? = some (.deferred (some [])) ∧ ∃ r, W.heap[B + 1]? = some (.loop r)
theorem wpIn_rangeFunc_two {α : Type} {g : Operand} {ps : Array Tmp} {assign body : Code} {Q : Exit → Act → World → Prop} {a : Act} {w : World}
  (hro : F.round = none) (h1 : 1 ≤ n) {gf : Nat} {lb : Array Value} (hg : a.eval g = .func (.func gf) #[] lb) (hFg : F.fn gf) (eg : ∀ args w, (callFunc gf args).run P w = .ok (.enter gf args) w)
  {encs : α → Array Value} {Kp : World → World → Prop} {S Sp : List α → Prop} {N : Nat} {w0 : World} (hseq : SeqTwo F (n - 1) P gf lb encs Kp S Sp N w0)
  (hKt : ∀ {A B C : World}, Kp A B → Kp B C → Kp A C) (hKb : ∀ (W : World) (l : Nat) (o' : Obj), w.heap.size ≤ l → Kp W (W.putObj l o')) (hb0 : Below w0.heap.size w0 w) (hps : ∀ x, (encs x).size = ps.size)
  (I : List α → World → Prop) (Ix : Code → List α → World → Prop) (hI : ∀ s W W', I s W → Chg [w.heap.size, w.heap.size + 1] W W' → LoopAt w.heap.size W' → I s W') (hIx : ∀ c s W W', Ix c s W → Chg [w.heap.size, w.heap.size + 1] W W' → LoopAt w.heap.size W' → Ix c s W') (h0 : I [] w) (a₁ : α → Act)
  (hassign : ∀ (l : Nat) (x : α) (W : World) (K : Act → World → Prop), K (a₁ x) W →
   assign.wpIn (F.inRound l) (n - 1 - 1) P (Exit.then K (fun _ _ _ => False)) { tmps := (ps.zip (encs x)).foldl (fun t (p, v) => t.setIfInBounds p v) a.tmps, defers := [] } W)
  (hbody : ∀ (l : Nat) (pre : List α) (x : α) (W : World), LoopAt w.heap.size W → I pre W → pre.length < N → body.wpIn (F.inRound l) (n - 1 - 1) P (ownPostG w.heap.size Kp I Ix (pre ++ [x]) W) (a₁ x) W)
  (hdone : ∀ (D : Nat) (xs : List α) (W : World), w.heap.size ≤ D → S xs → I xs W → W.heap[D]? = some (.deferred (some [])) → D = w.heap.size → Q .normal { a with defers := { target := .collected D, args := #[] } :: a.defers } W)
  (hstop : ∀ (D : Nat) (c : Code) (pre : List α) (W : World), w.heap.size ≤ D → Sp pre → Ix c pre W → W.heap[D]? = some (.deferred (some [])) → D = w.heap.size → c.wpIn F n P Q { a with defers := { target := .collected D, args := #[] } :: a.defers } W) :
  (Code.rangeFunc g ps assign body).wpIn F n P Q a w := by
 refine wpIn_rangeFunc ?_
 intro fn hfn
 rw [hro]
 obtain ⟨rec, hrec⟩ : ∃ rec : LoopState → Option Code → Loop, rec = fun st pe => { state := st, pending := pe, fn, tmps := a.tmps, params := ps, assign, body, defers := w.heap.size } := ⟨_, rfl⟩
 obtain ⟨W1, hW1⟩ : ∃ W1, (w.alloc (.deferred (some []))).alloc (.loop (rec .ready none)) = W1 := ⟨_, rfl⟩
 have hL1 : W1.heap[w.heap.size + 1]? = some (.loop (rec .ready none)) := by
  rw [← hW1]; have := World.alloc_heap_new (w.alloc (.deferred (some []))) (.loop (rec .ready none)); rwa [World.size_alloc] at this
 have hK1 : W1.heap[w.heap.size]? = some (.deferred (some [])) := by
  rw [← hW1]; exact (Below.heap_alloc _ _ _ (by simp)).trans (World.alloc_heap_new w _)
 have hbw : Below w.heap.size w W1 := by
  rw [← hW1]; exact ((Below.refl _ w).alloc (Nat.le_refl _) _).alloc (by simp) _
 have hI1 : I [] W1 := hI [] w W1 h0 (Chg.of_below hbw _) ⟨hK1, _, hL1⟩
 have hb1 : Below w0.heap.size w0 W1 := hb0.trans (hbw.mono hb0.size)
 refine ⟨w.heap.size + 1, [{ target := .collected w.heap.size, args := #[] }], W1, { target := .fn (.func gf) lb, args := #[.func (.yield (w.heap.size + 1)) #[] #[]] }, W1, gf,
  #[.func (.yield (w.heap.size + 1)) #[] #[]] ++ lb, W1, ?_, ?_, ?_, ?_, fun _ => h1, ?_⟩
 ·rw [← hW1, hrec]; exact run_enterLoop_outer _ _ _ _ _
 ·simp only [resolve, hg]
  simp [go_sem]
 ·intro f' hf'; simp [Target.leads] at hf'; subst hf'; exact hFg
 ·simp [invoke, go_sem, eg]
 ·refine (hseq (w.heap.size + 1)
   (fun pre W => I pre W ∧ W.heap[w.heap.size + 1]? = some (.loop (rec .ready none)) ∧ W.heap[w.heap.size]? = some (.deferred (some [])))
   (fun pre W => ∃ c, Ix c pre W ∧ W.heap[w.heap.size + 1]? = some (.loop (rec .done (some c))) ∧ W.heap[w.heap.size]? = some (.deferred (some [])))
   W1 hb1 (fun s A hs => ⟨hI s A _ hs.1 ⟨rfl, rfl, rfl, Nat.le_refl _, fun _ _ _ => rfl⟩ ⟨hs.2.2, _, hs.2.1⟩, hs.2⟩) ?_ ⟨hI1, hL1, hK1⟩).mono ?_
  ·rintro pre x W ⟨hi, hl, hk⟩ hlen
   have hlt : w.heap.size + 1 < W.heap.size := (Array.getElem?_eq_some_iff.1 hl).1
   have hy := run_yield (P := P) (args := encs x) hl (by rw [hrec]; exact hps x)
   rw [hrec] at hy
   refine ⟨fn, _, assign, body, hy, roundIn_of_wpIn hfn (hassign _ x W _ ⟨_, run_beginRound hl (by rw [hrec]), ?_⟩)⟩
   have hl2 : (W.putObj (w.heap.size + 1) (.loop { rec .ready none with state := .busy })).heap[w.heap.size + 1]? = some (.loop { rec .ready none with state := .busy }) := World.putObj_heap_same hlt
   have hk2 : (W.putObj (w.heap.size + 1) (.loop { rec .ready none with state := .busy })).heap[w.heap.size]? = some (.deferred (some [])) := (World.putObj_heap_other (by omega)).trans hk
   have hw2 : Kp W (W.putObj (w.heap.size + 1) (.loop { rec .ready none with state := .busy })) := hKb _ _ _ (by omega)
   refine wpIn_mono (hbody _ pre x _ ⟨hk2, _, hl2⟩ (hI _ _ _ hi (chg_put (.inr rfl) _) ⟨hk2, _, hl2⟩) hlen) ?_
   have fin : ∀ (jump : Option Code) (W3 : World), KeepsFrom w.heap.size (W.putObj (w.heap.size + 1) (.loop { rec .ready none with state := .busy })) W3 →
     (Instr.endRound (w.heap.size + 1) jump).run P W3 = .ok (.bool jump.isNone) (W3.putObj (w.heap.size + 1) (.loop (rec (if jump.isNone then .ready else .done) jump))) ∧
     W3.heap[w.heap.size + 1]? = some (.loop { rec .ready none with state := .busy }) ∧
     (W3.putObj (w.heap.size + 1) (.loop (rec (if jump.isNone then .ready else .done) jump))).heap[w.heap.size + 1]? = some (.loop (rec (if jump.isNone then .ready else .done) jump)) ∧
     (W3.putObj (w.heap.size + 1) (.loop (rec (if jump.isNone then .ready else .done) jump))).heap[w.heap.size]? = some (.deferred (some [])) := fun jump W3 hk3 => by
    have hl3 := hk3.same _ _ (by omega) hl2 rfl
    have := run_endRound (P := P) jump hl3
    rw [hrec] at this ⊢
    exact ⟨this, by rw [hrec] at hl3; exact hl3, World.putObj_heap_same (Array.getElem?_eq_some_iff.1 hl3).1, (World.putObj_heap_other (by omega)).trans (hk3.same _ _ (Nat.le_refl _) hk2 rfl)⟩
   rintro e a3 W3 hp
   cases e with
   | normal =>
    obtain ⟨hk3, hkp3, hi3⟩ := hp
    obtain ⟨hr, hl3, hl4, hk4⟩ := fin none W3 hk3
    exact ⟨_, _, hr, .inl ⟨rfl, ⟨hI _ _ _ hi3 (chg_put (.inr rfl) _) ⟨hk4, _, hl4⟩, hl4, hk4⟩, hKt (hKt hw2 hkp3) (hKb _ _ _ (by omega))⟩⟩
   | ret =>
    obtain ⟨hk3, hi3⟩ := hp
    obtain ⟨hr, hl3, hl4, hk4⟩ := fin (some .ret) W3 hk3
    exact ⟨_, _, hr, .inr ⟨rfl, .ret, hIx _ _ _ _ hi3 (chg_put (.inr rfl) _) ⟨hk4, _, hl4⟩, hl4, hk4⟩⟩
   | exit id =>
    obtain ⟨hk3, hi3⟩ := hp
    obtain ⟨hr, hl3, hl4, hk4⟩ := fin (some (.exit id)) W3 hk3
    exact ⟨_, _, hr, .inr ⟨rfl, .exit id, hIx _ _ _ _ hi3 (chg_put (.inr rfl) _) ⟨hk4, _, hl4⟩, hl4, hk4⟩⟩
   | goto t =>
    obtain ⟨hk3, hi3⟩ := hp
    obtain ⟨hr, hl3, hl4, hk4⟩ := fin (some (.goto t)) W3 hk3
    exact ⟨_, _, hr, .inr ⟨rfl, .goto t, hIx _ _ _ _ hi3 (chg_put (.inr rfl) _) ⟨hk4, _, hl4⟩, hl4, hk4⟩⟩
   | panic ch => exact hp.elim
   | outgrown => exact hp.elim
  ·rintro e W2 ⟨⟨v, rfl⟩, (⟨xs, hS, hi, hl, hk⟩ | ⟨pre, hSp, c, hi, hl, hk⟩)⟩
   ·exact ⟨none, _, by have := run_endLoop (P := P) hl (by rw [hrec]; simp); rw [hrec] at this; exact this, hdone _ xs _ (Nat.le_refl _) hS (hI _ _ _ hi (chg_put (.inr rfl) _) ⟨(World.putObj_heap_other (by omega)).trans hk, _, World.putObj_heap_same (Array.getElem?_eq_some_iff.1 hl).1⟩) ((World.putObj_heap_other (by omega)).trans hk) rfl⟩
   ·exact ⟨some c, _, by have := run_endLoop (P := P) hl (by rw [hrec]; simp); rw [hrec] at this; exact this, hstop _ c pre _ (Nat.le_refl _) hSp (hIx _ _ _ _ hi (chg_put (.inr rfl) _) ⟨(World.putObj_heap_other (by omega)).trans hk, _, World.putObj_heap_same (Array.getElem?_eq_some_iff.1 hl).1⟩) ((World.putObj_heap_other (by omega)).trans hk) rfl⟩
end
theorem chunk_two (F : Fence) (n : Nat) (h7 : F.fn 176) (hro : F.round = none) (hn : 1 ≤ n) (Bs Bn : Nat) (Kp : World → World → Prop) (hKc : ∀ W W', Kp W W' → W'.cell? ⟨Bs, 0, none⟩ = W.cell? ⟨Bs, 0, none⟩ ∧ W'.cell? ⟨Bn, 0, none⟩ = W.cell? ⟨Bn, 0, none⟩) (p : Addr) (len cap m : Nat) (L : List It) (hL : L.length = len) (hm : 1 ≤ m) (hm2 : m ≤ 1000) (hlen : len ≤ 100000) (hcap : len ≤ cap) {N : Nat} (hN : ∀ k, k * m < len → k < N) (w : World) (hb1 : Bs < w.heap.size) (hb2 : Bn < w.heap.size)
  (hBs : w.cell? ⟨Bs, 0, none⟩ = some (.slice (some p) len cap)) (hBn : w.cell? ⟨Bn, 0, none⟩ = some (.int .i64 (m : Int))) :
  SeqTwo F n Tryz.prog 176 #[.pointer (some ⟨Bs, 0, none⟩), .pointer (some ⟨Bn, 0, none⟩)] (fun x : Ck m len => #[Ck.val p x]) Kp (fun ys => ys.map (Ck.of L) = Tb.cut m len L) (fun _ => True) N w := fun l J Jx W hW hJd hY h0 =>
 (chunk1_in F n h7 hro hn l Bs Bn Kp hKc p len cap m L hL hm hm2 hlen hcap J Jx hJd (fun pre x W hj hl => hY pre x W hj (hN _ hl)) W ((hW.cell (p := ⟨Bs, 0, none⟩) hb1).trans hBs) ((hW.cell (p := ⟨Bn, 0, none⟩) hb2).trans hBn) h0).mono fun _ _ ⟨he, h⟩ => ⟨he, h.imp id fun ⟨pre, h1⟩ => ⟨pre, trivial, h1⟩⟩
end
section
open Go Go.RowKit Go.Lib Go.Shelf
variable {w w1 w2 : World} {X X1 X2 : Dw} {S S1 S2 : Sd} {Y Y1 Y2 : Yw} {V V1 V2 : Sv}
theorem isNew_none (hno : ∀ s ∈ S.list, St.isOwn s = false) : St.isNew S = true := by
 unfold St.isNew
 have : (S.list.any fun s => St.isOwn s && !St.isNone S s) = false := by
  rw [List.any_eq_false]
  intro s hs
  rw [hno s hs]
  simp
 rw [this]
 rfl
theorem sopen_new (h : Dm w X S) (hd : S.dead = false) (hno : ∀ s ∈ S.list, St.isOwn s = false) (hld : S.load ≤ 100000000000) (S' : Sd) (V' : Sv) (hR : St.create S = (S', some V', 0)) :
  Calls Tryz.prog 27 #[.pointer (some ⟨X.d, 0, none⟩)] w (SvBorn X w S' V') := by
 have hin := isnew_any X S w h
 rw [isNew_none hno] at hin
 have hcr : ∀ W, Below w.heap.size w W → Calls Tryz.prog 62 #[.pointer (some ⟨X.d, 0, none⟩)] W (SvBorn X w S' V') := fun W hb => (screate_any (h.below hb) hno hld S' V' hR).mono fun e w' ⟨X', Y, q1, q2, q3, q4, q5⟩ => ⟨X', Y, q1, q2, q3, (Chg.of_below hb X.foot).trans q4 (fun g hg => .inl hg), fun g hg => (q5 g hg).imp id (Nat.le_trans hb.size)⟩
 have c6 := h.dk.box.cell 6
 simp only [Dw.cells, gE0, gE1] at c6
 rw [hd] at c6
 have HIN := Lib.hid hin
 have HCR := Lib.hid hcr
 clear h hd hin hcr hno hR hld
 go_enter Tryz.func27, Tryz.ntmps27
 go_wp2_with (first | (go_at_call 60; go_in) | fail)
 with_reducible refine HIN.out.mono ?_
 rintro e w1 ⟨rfl, hb1⟩
 go_wp2_with fail
 with_reducible refine (HCR.out w1 hb1).mono ?_
 rintro e w2 ⟨X', Y, rfl, h2⟩
 have HZ : Hid (SvBorn X w S' V' (.returned (.tuple #[.pointer (some ⟨Y.s, 0, none⟩), .int .i64 0])) w2) := Lib.hid ⟨X', Y, rfl, h2⟩
 clear h2 hb1 HIN HCR
 go_wp2
 go_ret2
 exact HZ.out
end
section
open Go
namespace Ls
def ins (x : List UInt8) : List (List UInt8) → List (List UInt8)
 | [] => [x]
 | y :: r => if decide (x ≤ y) = true then x :: y :: r else y :: ins x r
def sort (l : List (List UInt8)) : List (List UInt8) := l.foldr ins []
theorem ins_perm (x : List UInt8) : ∀ l, (ins x l).Perm (x :: l)
 | [] => List.Perm.refl _
 | y :: r => by
  unfold ins
  split
  ·exact List.Perm.refl _
  ·exact ((ins_perm x r).cons y).trans (List.Perm.swap x y r)
theorem sort_perm : ∀ l, (sort l).Perm l
 | [] => List.Perm.refl _
 | x :: r => by
  show (ins x (sort r)).Perm (x :: r)
  exact (ins_perm x _).trans ((sort_perm r).cons x)
theorem mem_ins {x z : List UInt8} {l : List (List UInt8)} : z ∈ ins x l ↔ z = x ∨ z ∈ l := by rw [(ins_perm x l).mem_iff, List.mem_cons]
theorem ins_pw (x : List UInt8) : ∀ (l : List (List UInt8)), l.Pairwise (fun a b => decide (a ≤ b) = true) → (ins x l).Pairwise (fun a b => decide (a ≤ b) = true)
 | [], _ => List.pairwise_singleton _ _
 | y :: r, h => by
  obtain ⟨h1, h2⟩ := List.pairwise_cons.1 h
  unfold ins
  split
  ·rename_i hxy
   refine List.pairwise_cons.2 ⟨fun z hz => ?_, h⟩
   rcases List.mem_cons.1 hz with rfl | hz
   ·exact hxy
   ·have q1 := of_decide_eq_true hxy
    have q2 := of_decide_eq_true (h1 z hz)
    exact decide_eq_true (List.le_trans q1 q2)
  ·rename_i hxy
   refine List.pairwise_cons.2 ⟨fun z hz => ?_, ins_pw x r h2⟩
   rcases mem_ins.1 hz with rfl | hz
   ·rcases List.le_total z y with q | q
    ·exact absurd (decide_eq_true q) hxy
    ·exact decide_eq_true q
   ·exact h1 z hz
theorem sort_pw : ∀ l, (sort l).Pairwise (fun a b => decide (a ≤ b) = true)
 | [] => List.Pairwise.nil
 | x :: r => ins_pw x _ (sort_pw r)
def list (d : Sd) : List (List UInt8) := if d.dead = true then [] else sort (d.names.map (·.1))
theorem list_eq : Sd.list = list := by
 funext d
 unfold Sd.list list
 split
 ·rfl
 ·have h1 := mergeSort_of_perm (sort_perm (d.names.map (·.1))).symm
  have h2 := List.mergeSort_of_pairwise (sort_pw (d.names.map (·.1)))
  exact h1.trans h2
section
variable (L : Sd → List (List UInt8))
def fin (d : Sd) (M : Gs) (nm : List UInt8) : Sd × Gs × Nat :=
 if (d.syncDir).2 ≠ 0 then ((d.syncDir).1, { M with name := nm, count := 1, broken := true }, (d.syncDir).2)
 else (Mw.sweep nm (L (d.syncDir).1) (d.syncDir).1, { M with name := nm, count := 1 }, 0)
def ren (d : Sd) (M : Gs) (nm : List UInt8) : Sd × Gs × Nat :=
 if (d.rename Mw.kTemp Mw.kCur).2 ≠ 0 then ((d.rename Mw.kTemp Mw.kCur).1, M, (d.rename Mw.kTemp Mw.kCur).2) else fin L (d.rename Mw.kTemp Mw.kCur).1 M nm
def sd1 (d : Sd) (M : Gs) (nm : List UInt8) : Sd × Gs × Nat :=
 if (d.syncDir).2 ≠ 0 then ((d.syncDir).1, M, (d.syncDir).2) else ren L (d.syncDir).1 M nm
def hd (d : Sd) (M : Gs) (nm : List UInt8) : Sd × Gs × Nat :=
 if (d.write Mw.kTemp (Mw.headB ((Mn.number nm Mn.kMan).getD 0))).2 ≠ 0 then ((d.write Mw.kTemp (Mw.headB ((Mn.number nm Mn.kMan).getD 0))).1, M, (d.write Mw.kTemp (Mw.headB ((Mn.number nm Mn.kMan).getD 0))).2)
 else sd1 L (d.write Mw.kTemp (Mw.headB ((Mn.number nm Mn.kMan).getD 0))).1 M nm
def tmp (d : Sd) (M : Gs) (nm : List UInt8) : Sd × Gs × Nat :=
 if (d.read Mw.kTemp).2 = 0 then
  if (d.remove Mw.kTemp).2 ≠ 0 then ((d.remove Mw.kTemp).1, M, (d.remove Mw.kTemp).2) else hd L (d.remove Mw.kTemp).1 M nm
 else hd L d M nm
def rewrite (d : Sd) (M : Gs) (nm : List UInt8) : Sd × Gs × Nat :=
 if (d.write nm M.v.whole.rec_).2 ≠ 0 then ((d.write nm M.v.whole.rec_).1, M, (d.write nm M.v.whole.rec_).2)
 else tmp L (d.write nm M.v.whole.rec_).1 M nm
def create (S : Sd) : Sd × Option Sv × Nat :=
 let a := St.wipe (L S) S
 if a.2 ≠ 0 then (a.1, none, a.2) else
 let b := a.1.create St.kLog1
 if b.2 ≠ 0 then (b.1, none, b.2) else
 let c := b.1.sync St.kLog1
 if c.2 ≠ 0 then (c.1, none, c.2) else
 let r := rewrite L c.1 St.first (Mn.name Mn.kMan 1)
 if r.2.2 ≠ 0 then (r.1, none, r.2.2) else (r.1, some ⟨r.2.1, St.kLog1, 0, 0, [], [], [], false⟩, 0)
def number (S : Sd) : Int := max (Mn.greatest (L S) Mn.kLog) (Mn.greatest (L S) Mn.kTab) + 1
def write (S : Sd) (l : List It) : Sd × Nat :=
 if 1073741824 < number L S then (S, 65) else
 let s := Mn.name Mn.kTab (number L S)
 let a := S.create s
 if a.2 ≠ 0 then a else
 let b := a.1.append s (Tb.make l)
 if b.2 ≠ 0 then b else b.1.sync s
def fresh (S : Sd) : Sd × Nat :=
 if 1073741824 < number L S then (S, 65) else
 let s := Mn.name Mn.kLog (number L S)
 let a := S.create s
 if a.2 ≠ 0 then a else a.1.sync s
def flush2 (S : Sd) (V : Sv) (add : List (Int × Int)) (tabs : List ((Int × Int) × List (List It))) : Sd × Sv × Nat :=
 let b := fresh L S
 if b.2 ≠ 0 then (b.1, V, b.2) else
 let r := St.turn b.1 V ⟨[], add, number L S, 0, 0, 0, 0⟩ (St.turned (number L S) tabs)
 if r.2.2 = 0 then ((r.1.remove (Mn.name Mn.kLog V.M.v.log)).1, r.2.1, 0) else r
def flush (S : Sd) (V : Sv) : Sd × Sv × Nat :=
 if V.only = true then (S, V, 14) else
 if V.ct = 0 then (S, V, 0) else
 if 30 ≤ V.tabs.length then (S, V, 65) else
 if St.live V = [] then flush2 L S V [] V.tabs else
 let a := write L S (St.live V)
 if a.2 ≠ 0 then (a.1, V, a.2) else flush2 L a.1 V [(0, number L S)] (V.tabs ++ [((0, number L S), Tb.rows (St.live V))])
end
theorem create_eq (S : Sd) : St.create S = create list S := by rw [← list_eq]; rfl
end Ls
end
section
open Go
namespace Aw
def y : It := ⟨3, 2, 7, 9, 5⟩
def dflt : Sv := ⟨St.first, [], 0, 0, [], [], [], false⟩
def c0 : Sd × Option Sv × Nat := Ls.create Ls.list (Sd.new 1048576)
def S0 : Sd := c0.1
def V0 : Sv := c0.2.1.getD dflt
def r1 : Sd × Sv × Nat := St.apply S0 V0 [y]
def r2 : Sd × Sv × Nat := Ls.flush Ls.list r1.1 r1.2.1
theorem opt_getD {α : Type} {o : Option α} {d : α} (h : o.isSome = true) : o = some (o.getD d) := by cases o <;> simp at h ⊢
theorem c0_some : c0.2.1.isSome = true := by decide +kernel
theorem c0_zero : c0.2.2 = 0 := by decide +kernel
theorem born : St.create (Sd.new 1048576) = (S0, some V0, 0) := by
 rw [Ls.create_eq]
 have h3 := opt_getD (d := dflt) c0_some
 have h2 := c0_zero
 show c0 = _
 unfold S0 V0
 generalize c0 = c at *
 obtain ⟨a, b, n⟩ := c
 simp only at h2 h3 ⊢
 rw [h2, ← h3]
theorem f0 : V0.st = [] ∧ V0.mem = [] ∧ V0.sz = 0 ∧ V0.ct = 0 ∧ V0.nm.length ≤ 1000 := by decide +kernel
theorem f1 : (St.apply S0 V0 [y]).2.2 = 0 := by decide +kernel
theorem f2 : r1.2.1.mem = [y] ∧ r1.2.1.st = [y] ∧ Tb.good (St.live r1.2.1) = true ∧ r1.2.1.M.v.files.length ≤ 40 ∧ (1 ≤ r1.2.1.M.v.log ∧ r1.2.1.M.v.log ≤ 1073741824) ∧ r1.2.1.M.count ≤ 1000000000 ∧ r1.2.1.M.name.length ≤ 1000 ∧ r1.1.load ≤ 100000000000 := by decide +kernel
theorem f3 : r2.2.2 = 0 := by decide +kernel
theorem f4 : r2.2.1.tabs.length = 1 ∧ r2.2.1.st = [y] := by decide +kernel
end Aw
end
section
open Go Go.RowKit Go.Lib Go.Shelf
variable {w w1 w2 : World} {X X1 X2 : Dw} {S S1 S2 : Sd} {Y Y1 Y2 : Yw} {V V1 V2 : Sv}
structure WAt (w0 w : World) (gw : Nat) (X : Dw) (S : Sd) (Y : Yw) (V : Sv) : Prop where
 at_ : SvAt w X S Y V
 box : BoxO w 34 gw [.pointer (some ⟨X.d, 0, none⟩), .pointer (some ⟨Y.s, 0, none⟩), .slice none 0 0, .int .u64 0, .int .u64 0, .int .u64 0, .int .u64 0]
 low : ∀ g ∈ XY X Y, w0.heap.size ≤ g
 out : gw ∉ XY X Y
 gl : w0.heap.size ≤ gw
 bel : Below w0.heap.size w0 w
theorem WAt.below {w0 : World} {gw : Nat} (h : WAt w0 w gw X S Y V) (hb : Below w.heap.size w w1) : WAt w0 w1 gw X S Y V := ⟨h.at_.below hb, h.box.below hb, h.low, h.out, h.gl, later_ h.bel hb⟩
theorem WAt.upd {w0 : World} {gw : Nat} (h : WAt w0 w gw X S Y V) (hu : SvUpd X Y w w1 S1 V1) : ∃ X1 Y1, WAt w0 w1 gw X1 S1 Y1 V1 ∧ ∀ g ∈ XY X1 Y1, g ∈ XY X Y ∨ w.heap.size ≤ g := by
 obtain ⟨X1, Y1, e, es, h1, c, f⟩ := hu
 have hl := h.box.lt
 refine ⟨X1, Y1, ⟨h1, by rw [e, es]; exact h.box.chg c h.out, fun g hg => ?_, fun hm => ?_, h.gl, h.bel.trans (c.below h.bel.size h.low)⟩, f⟩
 ·rcases f g hg with q | q
  ·exact h.low g q
  ·exact Nat.le_trans h.bel.size q
 ·rcases f gw hm with q | q
  ·exact h.out q
  ·omega
end
section
open Go Go.RowKit Go.Lib Go.Shelf
variable {w w1 w2 : World} {X X1 X2 : Dw} {S S1 S2 : Sd} {Y Y1 Y2 : Yw} {V V1 V2 : Sv}
def hval (lev n : Int) (f : Nat) : Value := .agg #[.int .i64 lev, .int .i64 n, .pointer (some ⟨f, 0, none⟩)]
structure Way (w0 : World) (X0 : Dw) (Y : Yw) (V : Sv) (w : World) (X : Dw) (S : Sd) : Prop where
 at_ : SvAt w X S Y V
 d : X.d = X0.d
 c : Chg (XY X0 Y) w0 w
 f : ∀ g ∈ XY X Y, g ∈ XY X0 Y ∨ w0.heap.size ≤ g
theorem Way.start (h : SvAt w X S Y V) : Way w X Y V w X S := ⟨h, rfl, Chg.refl _ _, fun _ hg => .inl hg⟩
theorem Way.below {w0 : World} {X0 : Dw} (k : Way w0 X0 Y V w X S) (hb : Below w.heap.size w w1) : Way w0 X0 Y V w1 X S := ⟨k.at_.below hb, k.d, k.c.trans (Chg.of_below hb []) (fun g hg => by cases hg), k.f⟩
theorem Way.disk {w0 : World} {X0 : Dw} (k : Way w0 X0 Y V w X S) (hu : UpdM X w w1 S1) : ∃ X1, X1.d = X.d ∧ Way w0 X0 Y V w1 X1 S1 ∧ Chg (XY X Y) w w1 ∧ ∀ g ∈ XY X1 Y, g ∈ XY X Y ∨ w.heap.size ≤ g := by
 obtain ⟨X1, e, h1, c1, f1⟩ := k.at_.disk hu
 refine ⟨X1, e, ⟨h1, e.trans k.d, k.c.trans c1 k.f, fun g hg => ?_⟩, c1, f1⟩
 rcases f1 g hg with q | q
 ·exact k.f g q
 ·exact .inr (Nat.le_trans k.c.size q)
theorem Way.upd {w0 : World} {X0 : Dw} (k : Way w0 X0 Y V w X S) : SvUpd X0 Y w0 w S V := ⟨X, Y, k.d, rfl, k.at_, k.c, k.f⟩
end
section
open Go Go.RowKit Go.Lib Go.Shelf
variable {w w1 w2 : World} {X X1 X2 : Dw} {S S1 S2 : Sd} {Y Y1 Y2 : Yw} {V V1 V2 : Sv}
end
section
open Go Go.RowKit Go.Lib Go.Shelf
variable {w w1 w2 : World} {X X1 X2 : Dw} {S S1 S2 : Sd} {Y Y1 Y2 : Yw} {V V1 V2 : Sv}
end
section
open Go Go.RowKit Go.Lib
end
end Go.Proofs.YtdkjoigpahafmaaGreatDoor
