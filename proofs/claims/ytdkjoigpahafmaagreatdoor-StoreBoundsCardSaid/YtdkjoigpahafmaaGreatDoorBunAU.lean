/- Texts StoK, LawU, PlainBorn, PlainBounds, PlainBoundsB in one. No conditions. -/
import Derived.Test.YtdkjoigpahafmaaGreatDoorBunAA
import Derived.Test.YtdkjoigpahafmaaGreatDoorBunAT
import Derived.Test.YtdkjoigpahafmaaGreatDoorBunAR
import Derived.Test.YtdkjoigpahafmaaGreatDoorBunAS
import Derived.Test.YtdkjoigpahafmaaGreatDoorBunAQ
import Derived.Test.YtdkjoigpahafmaaGreatDoorBunAE
import Derived.Test.YtdkjoigpahafmaaGreatDoorBunAJ

set_option linter.unusedSimpArgs false
set_option linter.unusedVariables false
set_option maxRecDepth 100000
set_option maxHeartbeats 16000000
namespace Go.Proofs.YtdkjoigpahafmaaGreatDoor
section
open Go Go.RowKit Go.Lib Go.Shelf
variable {w w1 w2 : World} {X X1 X2 : Dw} {S S1 S2 : Sd} {Y Y1 Y2 : Yw} {V V1 V2 : Sv}
theorem write_load (S : Sd) (l : List It) : (St.write S l).1.load ≤ S.load + 3 := by
 unfold St.write
 split
 ·simp
 ·have h1 := Sd.create_load S (Mn.name Mn.kTab (St.number S))
  simp only
  split
  ·omega
  ·split
   ·rw [Sd.append_load]
    omega
   ·rw [Sd.sync_load, Sd.append_load]
    omega
theorem fresh_load (S : Sd) : (St.fresh S).1.load ≤ S.load + 3 := by
 unfold St.fresh
 split
 ·simp
 ·have h1 := Sd.create_load S (Mn.name Mn.kLog (St.number S))
  simp only
  split
  ·omega
  ·rw [Sd.sync_load]
   omega
theorem gsave_load (d : Sd) (M : Gs) (e : Ed) : (Gw.save d M e).1.load = d.load := by
 unfold Gw.save
 repeat' split
 all_goals (try rfl)
 unfold Gw.put
 repeat' split
 all_goals simp [Sd.sync_load, Sd.append_load]
theorem turn_load (S : Sd) (V : Sv) (x : Ed) (F : Sv → Sv) : (St.turn S V x F).1.load ≤ S.load := by
 have h1 := Sd.syncDir_load S
 unfold St.turn St.saved
 simp only
 repeat' split
 all_goals (try simp only [gsave_load])
 all_goals omega
theorem own_none {w : World} {base n c size : Nat} {e : TypeId} {A : Option Addr} {xs : List Value} (h : w.ownsRow base e size (.slice A n c) n xs) : A = none → n = 0 ∧ c = 0 := by
 intro ha
 subst ha
 rcases h.2 with ⟨h1, h2⟩ | ⟨g, cap, cur, h1, _⟩
 ·injection h1 with _ q1 q2
  exact ⟨q1, q2⟩
 ·injection h1 with q _ _
  cases q
theorem Way.tabs {w0 : World} {X0 : Dw} {S0 : Sd} (h : SvAt w0 X0 S0 Y V) (k : Way w0 X0 Y V w X S) {G : List Nat} (hG : ∀ g ∈ G, g ∈ XY X Y ∨ w0.heap.size ≤ g) : Fixed G w fun W => TabsAt W Y.T Y.q V.tabs :=
 h.tabs.step k.c (fun g hg => by
  rcases hG g hg with q | q
  ·exact k.f g q
  ·exact .inr q)
theorem row3_box {w : World} {e : TypeId} {g : Nat} {xs : List Value} (h : BoxO w e g xs) (hl : xs.length = 3) : Row w.heap.size w (some ⟨g, 0, none⟩) 1 3 xs := ⟨by omega, fun j hj => ⟨_, rfl, h.lt, by
 have h1 := h.cell j
 have e0 : (⟨g, 0, none⟩ : Addr).add j = ⟨g, j, none⟩ := by
  simp [Addr.add]
  omega
 rw [e0, h1]
 exact List.getElem?_eq_getElem hj⟩⟩
theorem row2_box {w : World} {e : TypeId} {g : Nat} {xs : List Value} (h : BoxO w e g xs) (hl : xs.length = 2) : Row w.heap.size w (some ⟨g, 0, none⟩) 1 2 xs := ⟨by omega, fun j hj => ⟨_, rfl, h.lt, by
 have h1 := h.cell j
 have e0 : (⟨g, 0, none⟩ : Addr).add j = ⟨g, j, none⟩ := by
  simp [Addr.add]
  omega
 rw [e0, h1]
 exact List.getElem?_eq_getElem hj⟩⟩
def FlB (gt gs s : Nat) (AF : Option Addr) (nf : Nat) (add : List (Int × Int)) (T : Sl) (q : List Tq) (ts : List ((Int × Int) × List (List It))) (W : World) : Prop :=
 BoxO W 73 gt [.slice T.a T.n T.c] ∧ BoxO W 30 gs [.pointer (some ⟨s, 0, none⟩)] ∧ Row W.heap.size W AF nf 2 (fcells add) ∧ TabsAt W T q ts
structure FlM (w : World) (X : Dw) (Y : Yw) (V : Sv) (gx gt : Nat) (R : Sd × Sv × Nat) (l0 : Nat) (wx : World) (S2 : Sd) (X2 : Dw) (AF : Option Addr) (nf cf : Nat) (add : List (Int × Int)) (T : Sl) (q : List Tq) (ts : List ((Int × Int) × List (List It))) : Prop where
 way : Way w X Y V wx X2 S2
 box : BoxO wx 163 gx [.slice none 0 0, .slice AF nf cf, .int .i64 0, .int .u64 0, .int .u64 0, .int .u64 0, .int .u64 0]
 nf1 : nf ≤ 1
 fix : Fixed (gx :: XY X2 Y) wx (FlB gt w.heap.size Y.s AF nf add T q ts)
 res : R = St.flush2 S2 V add ts
 load : S2.load ≤ l0 + 3
 out : ∀ a, AF = some a → a.block ∉ XY X2 Y ∧ a.block ≠ gx ∧ a.block < wx.heap.size
 gxo : gx ∉ XY X2 Y
 gtx : gt ≠ gx ∧ w.heap.size ≤ gt ∧ gt < wx.heap.size ∧ gt ∉ XY X2 Y
theorem sflush_any (h : SvAt w X S Y V) (hgd : Tb.good (St.live V) = true) (hfit : ∀ x ∈ V.mem, x.fit) (hml : V.mem.length ≤ 400000) (hsl : V.st.length ≤ 2000) (hvf : V.M.v.files.length ≤ 40) (hlog : 1 ≤ V.M.v.log ∧ V.M.v.log ≤ 1073741824) (hc0 : V.M.count ≤ 1000000000) (hnl : V.M.name.length ≤ 1000) (hld : S.load ≤ 100000000000) :
  Calls Tryz.prog 37 #[.pointer (some ⟨Y.s, 0, none⟩)] w (SvPost X Y w (St.flush S V)) := by
 obtain ⟨R, hR⟩ : ∃ R, R = St.flush S V := ⟨_, rfl⟩
 rw [← hR]
 unfold St.flush at hR
 have hbA := (Below.refl w.heap.size w).alloc (Nat.le_refl _) (.cells #[.pointer (some ⟨Y.s, 0, none⟩)] 30)
 have hbs := BoxO.new w #[.pointer (some ⟨Y.s, 0, none⟩)] 30
 have hxlt := h.lt
 generalize hW : w.alloc (.cells #[.pointer (some ⟨Y.s, 0, none⟩)] 30) = W at *
 have k1 : Way w X Y V W X S := (Way.start h).below hbA
 have s0 := hbs.cell 0
 have c10 := k1.at_.box.cell 10
 have c2 := k1.at_.box.cell 2
 have c4 := k1.at_.box.cell 4
 simp only [Yw.cells, gE0, gE1] at c10 c2 c4 s0
 have HX := Lib.hid hxlt
 have HB := Lib.hid hbs
 cases ho : V.only with
 | true =>
  rw [if_pos ho] at hR
  rw [ho] at c10
  have HZ : Hid (SvPost X Y w R (.returned (.int .i64 14)) W) := Lib.hid (by rw [hR]; exact ⟨rfl, k1.upd⟩)
  clear hR ho h hxlt hbs k1
  go_enter Tryz.func37, Tryz.ntmps37
  go_wp2
  go_ret
  exact HZ.out
 | false =>
 rw [if_neg (by simp [ho])] at hR
 rw [ho] at c10
 have hlc := lcount_any Y.g X.d V.nm V.sz V.ct W k1.at_.log
 have HLC := Lib.hid hlc
 clear hlc
 by_cases hct : V.ct = 0
 ·rw [if_pos hct] at hR
  have e0 : ((V.ct : Int) == 0) = true := by simp [hct]
  have HZ : Hid (SvPost X Y w R (.returned (.int .i64 0)) W) := Lib.hid (by rw [hR]; exact ⟨rfl, k1.upd⟩)
  clear hR ho h hxlt hbs k1 hct
  go_enter Tryz.func37, Tryz.ntmps37
  go_wp2_with fail
  with_reducible refine HLC.out.mono ?_
  rintro e w2 ⟨rfl, rfl⟩
  go_wp2
  go_ret
  exact HZ.out
 rw [if_neg hct] at hR
 have e0 : ((V.ct : Int) == 0) = false := by simp; omega
 have htl := h.tlen
 by_cases h30 : 30 ≤ Y.T.n
 ·rw [if_pos (by omega)] at hR
  have e1 : ((30 : Int) ≤ (Y.T.n : Int)) = True := eq_true (by omega)
  have HZ : Hid (SvPost X Y w R (.returned (.int .i64 65)) W) := Lib.hid (by rw [hR]; exact ⟨rfl, k1.upd⟩)
  clear hR ho h hxlt hbs k1 hct htl h30
  go_enter Tryz.func37, Tryz.ntmps37
  go_wp2_with fail
  with_reducible refine HLC.out.mono ?_
  rintro e w2 ⟨rfl, rfl⟩
  go_wp2
  go_ret
  exact HZ.out
 rw [if_neg (by omega)] at hR
 have e1 : ((30 : Int) ≤ (Y.T.n : Int)) = False := eq_false (by omega)
 obtain ⟨hq, hrow, hTc, hTm, hTn, hTb⟩ := h.tabs.now
 have hslt : Y.s < w.heap.size := h.box.lt
 have hgsl : w.heap.size < W.heap.size := hbs.lt
 have hbE := (Below.refl W.heap.size W).alloc (Nat.le_refl _) (.cells #[.slice none 0 0, .slice none 0 0, .int .i64 0, .int .u64 0, .int .u64 0, .int .u64 0, .int .u64 0] 163)
 have hbx := BoxO.new W #[.slice none 0 0, .slice none 0 0, .int .i64 0, .int .u64 0, .int .u64 0, .int .u64 0, .int .u64 0] 163
 have hbs2 := hbs.below hbE
 have k2 := k1.below hbE
 have hgx : W.heap.size < (W.alloc (.cells #[.slice none 0 0, .slice none 0 0, .int .i64 0, .int .u64 0, .int .u64 0, .int .u64 0, .int .u64 0] 163)).heap.size := hbx.lt
 have t0 := hbs2.cell 0
 have t4 := k2.at_.box.cell 4
 simp only [Yw.cells, gE0, gE1] at t0 t4
 have hbw2 : Below w.heap.size w (W.alloc (.cells #[.slice none 0 0, .slice none 0 0, .int .i64 0, .int .u64 0, .int .u64 0, .int .u64 0, .int .u64 0] 163)) := hbA.trans (hbE.mono hbA.size)
 have hcl := hclone_any Y.T.a Y.T.n Y.T.c Y.q (W.alloc (.cells #[.slice none 0 0, .slice none 0 0, .int .i64 0, .int .u64 0, .int .u64 0, .int .u64 0, .int .u64 0] 163)) (by omega) hTn ((hrow.below hbw2).up hbw2.size)
 have HCL := Lib.hid hcl
 have HR := Lib.hid hR
 have HH := Lib.hid h
 have HK2 := Lib.hid k2
 have HQ := Lib.hid hq
 have HBX := Lib.hid hbx
 have HBS := Lib.hid hbs2
 have HW2 := Lib.hid (And.intro hbw2 (And.intro hslt (And.intro hgsl hgx)))
 have H30 := Lib.hid h30
 clear hR h ho hct htl hxlt hbs hcl hrow hTc hTm hTb hTn k1 k2 hq hbx hbs2 hbw2 hslt hgsl hgx hbE h30 HB
 go_enter Tryz.func37, Tryz.ntmps37
 go_wp2_with fail
 with_reducible refine HLC.out.mono ?_
 rintro e w2 ⟨rfl, hw2⟩
 obtain rfl := hw2.symm
 go_wp2_with fail
 clear t0 t4
 generalize hW2 : W.alloc (.cells #[.slice none 0 0, .slice none 0 0, .int .i64 0, .int .u64 0, .int .u64 0, .int .u64 0, .int .u64 0] 163) = W2 at *
 with_reducible refine HCL.out.mono ?_
 rintro e w3 ⟨A3, c3, rfl, ho3, hb3⟩
 clear hW hW2 s0 c10 c2 c4 HCL HLC
 have hbA3 := (Below.refl w3.heap.size w3).alloc (Nat.le_refl _) (.cells #[.slice A3 Y.T.n c3] 73)
 have hbt := BoxO.new w3 #[.slice A3 Y.T.n c3] 73
 have hb23 : Below W2.heap.size W2 (w3.alloc (.cells #[.slice A3 Y.T.n c3] 73)) := later_ hb3 hbA3
 have ho4 := own_below ho3 hbA3
 have HA4 : Hid (∀ g, (Value.slice A3 Y.T.n c3).ownBlock = some g → W2.heap.size ≤ g ∧ g < w3.heap.size) := Lib.hid (fun g e => ho3.lt g e)
 have hgt : w3.heap.size < (w3.alloc (.cells #[.slice A3 Y.T.n c3] 73)).heap.size := hbt.lt
 have hw23 := hb3.size
 generalize hW4 : w3.alloc (.cells #[.slice A3 Y.T.n c3] 73) = W4 at *
 have k4 := HK2.out.below hb23
 have hbs4 := HBS.out.below hb23
 have hbx4 := HBX.out.below hb23
 have t0 := hbs4.cell 0
 simp only [gE0] at t0
 have hmi : ∀ W', Below W4.heap.size W4 W' → Calls Tryz.prog 94 #[.pointer (some ⟨Y.mm, 0, none⟩)] W' (RefPost W' V.mem) := fun W' hb => by
  have h5 := (k4.below hb).at_
  have := mmitems_any h5.mem (by have q1 := its_len h5.mem.sk; rw [h5.its] at q1; omega)
  rw [h5.its] at this
  exact this
 have hhs : ∀ W', Below W4.heap.size W4 W' → Calls Tryz.prog 95 #[.slice Y.A.a Y.A.n Y.A.c] W' fun e w' => ∃ g b, e = .returned (.func (.func 169) #[] #[.pointer (some ⟨g, 0, none⟩)]) ∧ HsAt w' g b V.st ∧ Below W'.heap.size W' w' := fun W' hb => by
  have h5 := (k4.below hb).at_
  exact has_any Y.A.a Y.A.n Y.A.c V.st W' (by rw [h5.alen]; omega) h5.st.now.row
 have hkc : ∀ W', Below W4.heap.size W4 W' → W'.cell? ⟨w.heap.size, 0, none⟩ = some (.pointer (some ⟨Y.s, 0, none⟩)) ∧ W'.cell? ⟨Y.s, 3, none⟩ = some (.pointer (some ⟨Y.mm, 0, none⟩)) ∧ W'.cell? ⟨Y.s, 5, none⟩ = some (.slice Y.A.a Y.A.n Y.A.c) := fun W' hb => by
  have h5 := (k4.below hb).at_.box
  have q3 := h5.cell 3
  have q5 := h5.cell 5
  simp only [Yw.cells, gE0, gE1] at q3 q5
  exact ⟨(hbs4.below hb).cell 0, q3, q5⟩
 have hkp : ∀ (A5 : Option Addr) (k5 c5 g6 b6 : Nat) (W' : World), k5 ≤ 1000000 → Row W'.heap.size W' A5 k5 5 (itc V.mem) → HsAt W' g6 b6 V.st → Calls Tryz.prog 93 #[.slice A5 k5 c5, .func (.func 169) #[] #[.pointer (some ⟨g6, 0, none⟩)]] W' (RefPost W' (St.live V)) := fun A5 k5 c5 g6 b6 W' hk hr hh => keep_any 169 (fun _ _ => rfl) #[.pointer (some ⟨g6, 0, none⟩)] (fun x => decide (x ∈ V.st)) A5 k5 c5 V.mem W' hk hr (fun x w7 hb7 => has1_any x g6 b6 V.st w7 (hh.below hb7))
 have HKP := Lib.hid hkp
 have HMI := Lib.hid hmi
 have HHS := Lib.hid hhs
 have HKC := Lib.hid hkc
 have HK4 := Lib.hid k4
 have HBS4 := Lib.hid hbs4
 have HBX4 := Lib.hid hbx4
 have HO4 := Lib.hid ho4
 have HBT := Lib.hid hbt
 have HN4 := Lib.hid (And.intro hgt hw23)
 clear hmi hhs hkc hkp k4 hbs4 hbx4 ho4 hbt hgt hw23 hbA3 ho3 hb3
 go_wp2_with fail
 clear hW4 t0
 refine wp_region_held_drew (S := fun w' => Below W4.heap.size W4 w') rfl (below_drew (Below.refl _ _)) (fun hSw => ?_)
 refine wpT (i := 0) (v := ?vfl0) ?hfl0 hSw ?kfl0
 case hfl0 => (intro w hSw; (obtain ⟨q0, q3, q5⟩ := HKC.out _ hSw); go_simp; try (with_reducible rfl))
 go_simp
 refine wpT (i := 1) (v := ?vfl1) ?hfl1 hSw ?kfl1
 case hfl1 => (intro w hSw; (obtain ⟨q0, q3, q5⟩ := HKC.out _ hSw); go_simp; try (with_reducible rfl))
 go_simp
 refine wpT (i := 2) (v := ?vfl2) ?hfl2 hSw ?kfl2
 case hfl2 => (intro w hSw; (obtain ⟨q0, q3, q5⟩ := HKC.out _ hSw); go_simp; try (with_reducible rfl))
 go_simp
 refine wpT (i := 3) (v := ?vfl3) ?hfl3 hSw ?kfl3
 case hfl3 => (intro w hSw; (obtain ⟨q0, q3, q5⟩ := HKC.out _ hSw); go_simp; try (with_reducible rfl))
 go_simp
 refine wpT (i := 5) (v := ?vfl5) ?hfl5 hSw ?kfl5
 case hfl5 => (intro w hSw; (obtain ⟨q0, q3, q5⟩ := HKC.out _ hSw); go_simp; try (with_reducible rfl))
 go_simp
 refine wpT (i := 6) (v := ?vfl6) ?hfl6 hSw ?kfl6
 case hfl6 => (intro w hSw; (obtain ⟨q0, q3, q5⟩ := HKC.out _ hSw); go_simp; try (with_reducible rfl))
 go_simp
 refine wpT (i := 7) (v := ?vfl7) ?hfl7 hSw ?kfl7
 case hfl7 => (intro w hSw; (obtain ⟨q0, q3, q5⟩ := HKC.out _ hSw); go_simp; try (with_reducible rfl))
 go_simp
 refine wpT (i := 8) (v := ?vfl8) ?hfl8 hSw ?kfl8
 case hfl8 => (intro w hSw; (obtain ⟨q0, q3, q5⟩ := HKC.out _ hSw); go_simp; try (with_reducible rfl))
 go_simp
 refine wpAnyH_ready (rs := [4]) (by kernel_rfl) (by simp) ?_
 refine AllReadyH.cons rfl (fun K hK => ?_) AllReadyH.nil
 go_simp
 with_reducible refine (HMI.out _ hSw).mono ?_
 rintro e w5 ⟨A5, k5, c5, rfl, hk5, hi5, hb5⟩; replace hk5 := Lib.hid hk5
 go_simp
 refine hK.out _ _ (later_ hSw hb5) (fun hSn => ?_)
 clear hK K hSw
 have hSw := hSn
 clear hSn
 go_simp
 refine wpAnyH_ready (rs := [9]) (by kernel_rfl) (by simp) ?_
 refine AllReadyH.cons rfl (fun K hK => ?_) AllReadyH.nil
 go_simp
 with_reducible refine (HHS.out _ hSw).mono ?_
 rintro e w6 ⟨g6, b6, rfl, hh6, hb6⟩
 go_simp
 refine hK.out _ _ (later_ hSw hb6) (fun hSn => ?_)
 clear hK K hSw
 have hSw := hSn
 clear hSn
 go_simp
 refine wpAnyH_ready (rs := [10]) (by kernel_rfl) (by simp) ?_
 refine AllReadyH.cons rfl (fun K hK => ?_) AllReadyH.nil
 go_simp
 with_reducible refine (HKP.out A5 k5 c5 g6 b6 w6 (by have := hk5.out; omega) ((hi5.row.below hb6).up hb6.size) hh6).mono ?_
 rintro e w7 ⟨A7, k7, c7, rfl, hk7, hi7, hb7⟩; replace hk7 := Lib.hid hk7
 go_simp
 refine hK.out _ _ (later_ hSw hb7) (fun hSn => ?_)
 clear hK K hSw
 have hSw := hSn
 clear hSn
 go_simp
 refine wpT (i := 11) (v := ?vfl11) ?hfl11 hSw ?kfl11
 case hfl11 => (intro w hSw; (obtain ⟨q0, q3, q5⟩ := HKC.out _ hSw); go_simp; try (with_reducible rfl))
 go_simp
 refine wpAnyH_done (by kernel_rfl) ?_ _
 have kw7 := HK4.out.below hSw
 have hbs7 := HBS4.out.below hSw
 have hbx7 := HBX4.out.below hSw
 have hbt7 := HBT.out.below hSw
 have ho7 := own_below HO4.out hSw
 have hsz : W2.heap.size ≤ w3.heap.size ∧ w3.heap.size < W4.heap.size ∧ W4.heap.size ≤ w7.heap.size := ⟨HN4.out.2, HN4.out.1, hSw.size⟩
 have hxy : ∀ g ∈ XY X Y, g < w.heap.size := HX.out
 have hws := HW2.out
 have FX7 : Fixed (W.heap.size :: XY X Y) w7 (FlB w3.heap.size w.heap.size Y.s none 0 [] ⟨A3, Y.T.n, c3⟩ Y.q V.tabs) := fun W' c' => by
  have n1 : w3.heap.size ∉ W.heap.size :: XY X Y := fun hm => by
   rcases List.mem_cons.1 hm with q | q
   ·omega
   ·have := hxy _ q
    omega
  have n2 : w.heap.size ∉ W.heap.size :: XY X Y := fun hm => by
   rcases List.mem_cons.1 hm with q | q
   ·omega
   ·have := hxy _ q
    omega
  obtain ⟨P', c0, q1, q2, q3, q4⟩ := own_form ho7
  injection q1 with q1 _ qc
  subst q1 qc
  have hft := (Way.tabs HH.out kw7 (G := W.heap.size :: XY X Y) (fun g hg => by
   rcases List.mem_cons.1 hg with q | q
   ·exact .inr (by omega)
   ·exact .inl q)) W' c'
  exact ⟨hbt7.chg c' n1, hbs7.chg c' n2, Row.nil_, HQ.out, (row_chg c' (Row.own ho7) (Nat.le_refl _) (fun j _ a ha hm => by
   have z1 := (q4 a ha).1
   rcases List.mem_cons.1 hm with q | q
   ·omega
   ·have := hxy _ q
    omega)).up c'.size, q2, q3, own_none ho7, hft.2.2.2.2.2⟩
 have HK7 := Lib.hid kw7
 have HO7 := Lib.hid ho7
 have HFX7 := Lib.hid FX7
 have HBX7 := Lib.hid hbx7
 have HI7 := Lib.hid hi7
 have HSZ := Lib.hid (And.intro hsz hws)
 have HA3 : Hid (∀ g, (Value.slice A3 Y.T.n c3).ownBlock = some g → W2.heap.size ≤ g ∧ g < w3.heap.size) := HA4
 have HHK := Lib.hid hk7
 clear kw7 ho7 FX7 hbx7 hbs7 hbt7 hi7 hSw hsz hxy hws hb7 hh6 hi5 hb5 hb6 HKP HMI HHS HKC HK4 HBS4 HBX4 HO4 HBT HN4 hk7 hb23 hbA
 go_upto_if 50 with (fail)
 go_cut [] (fun wx => ∃ S2 X2 AF nf cf add T q ts, FlM w X Y V W.heap.size w3.heap.size R S.load wx S2 X2 AF nf cf add T q ts)
 case first =>
  have hk7 := HHK.out.out
  by_cases hz : k7 = 0
  ·have e2 : (0 < k7) = False := eq_false (by omega)
   have hlv : St.live V = [] := List.length_eq_zero_iff.1 (by omega)
   have hR := HR.out
   rw [if_pos hlv] at hR
   have HM : Hid (FlM w X Y V W.heap.size w3.heap.size R S.load w7 S X none 0 0 [] ⟨A3, Y.T.n, c3⟩ Y.q V.tabs) := Lib.hid ⟨HK7.out, HBX7.out, by omega, HFX7.out, hR, by omega, (fun a ha => by cases ha), (fun hmm => by
    have := HSZ.out
    have := HX.out _ hmm
    omega), by
    have := HSZ.out
    refine ⟨by omega, by omega, by omega, fun hm => ?_⟩
    have := HX.out _ hm
    omega⟩
   clear hR hlv hk7 e2
   subst hz
   go_wp2_with fail
   go_meet
   case rel => exact ⟨_, _, _, _, _, _, _, _, _, HM.out⟩
  ·have hkp : 0 < k7 := by omega
   have t0 := HFX7.out.now.2.1.cell 0
   simp only [gE0] at t0
   have hlv : St.live V ≠ [] := fun e => hz (by rw [hk7, e]; rfl)
   have hR := HR.out
   rw [if_neg hlv] at hR
   have hll : (St.live V).length ≤ 2000 := by
    have q := hgd
    unfold Tb.good at q
    simp only [Bool.and_eq_true, decide_eq_true_eq] at q
    exact q.1.1
   have hwr := swrite_any HK7.out.at_ A7 k7 c7 (St.live V) (by omega) HI7.out.nc HI7.out.row (fun x hx => hfit x ((List.mem_filter.1 hx).1)) hgd 0 (by omega)
   have hnb := number_le S
   obtain ⟨n, hn⟩ : ∃ n, n = St.number S := ⟨_, rfl⟩
   rw [← hn] at hwr hR hnb
   obtain ⟨a, ha⟩ : ∃ a, a = St.write S (St.live V) := ⟨_, rfl⟩
   have hal : a.1.load ≤ S.load + 3 := by rw [ha]; exact write_load S (St.live V)
   rw [← ha] at hwr hR
   obtain ⟨S8, er8⟩ := a
   unfold SwPost at hwr
   simp only at hwr hR hal
   have HWR := Lib.hid hwr
   have HR8 := Lib.hid hR
   clear hwr hR ha hn hll hlv hz hk7
   go_wp2_with fail
   with_reducible refine HWR.out.mono ?_
   rintro e w8 ⟨va, vb, vp, X8, rfl, e8, hs8, hc8, hf8, hok⟩
   have k8 : Way w X Y V w8 X8 S8 := ⟨hs8, e8.trans HK7.out.d, HK7.out.c.trans hc8 HK7.out.f, fun g hg => by
    rcases hf8 g hg with q | q
    ·exact .inl q
    ·exact .inr (Nat.le_trans HK7.out.c.size q)⟩
   by_cases h8 : er8 = 0
   ·subst h8
    obtain ⟨f, hva, hvb, hvp, hft⟩ := hok rfl
    have hvb2 := hvb.symm
    have HFT := Lib.hid hft
    clear hok hft hvb
    subst hva hvp hvb2
    have hR := HR8.out
    rw [if_neg (by simp)] at hR
    have FX8 := HFX7.out.step (G := W.heap.size :: XY X8 Y) (c := hc8.mono fun g hg => .inl (List.mem_cons_of_mem _ hg)) (fun g hg => by
     rcases List.mem_cons.1 hg with q | q
     ·exact .inl (by rw [q]; exact List.mem_cons_self)
     ·exact (hf8 g q).imp (List.mem_cons_of_mem _) id)
    have hz := HSZ.out
    have hnx : ∀ g, w.heap.size ≤ g → g < w7.heap.size → g ∉ XY X Y ∧ g ∉ XY X8 Y := fun g h1 h2 => by
     have z1 : g ∉ XY X Y := fun hm => by
      have := HX.out g hm
      omega
     refine ⟨z1, fun hm => ?_⟩
     rcases hf8 g hm with q | q
     ·exact z1 q
     ·omega
    have hbx8 := HBX7.out.chg hc8 (hnx _ (by omega) (by omega)).1
    have ho8 := own_chg HO7.out hc8 (fun g e hm => by
     have z1 := (HO7.out.lt g e).1
     have := HX.out g hm
     omega)
    have hbA9 := (Below.refl w8.heap.size w8).alloc (Nat.le_refl _) (.cells #[.int .i64 0, .int .i64 n, .pointer (some ⟨f, 0, none⟩)] 169)
    have hh9 := BoxO.new w8 #[.int .i64 0, .int .i64 n, .pointer (some ⟨f, 0, none⟩)] 169
    have hbA10 := (Below.refl (w8.alloc (.cells #[.int .i64 0, .int .i64 n, .pointer (some ⟨f, 0, none⟩)] 169)).heap.size (w8.alloc (.cells #[.int .i64 0, .int .i64 n, .pointer (some ⟨f, 0, none⟩)] 169))).alloc (Nat.le_refl _) (.cells #[.int .i64 0, .int .i64 n] 166)
    have ha10 := BoxO.new (w8.alloc (.cells #[.int .i64 0, .int .i64 n, .pointer (some ⟨f, 0, none⟩)] 169)) #[.int .i64 0, .int .i64 n] 166
    have hb810 := later_ hbA9 hbA10
    have hbx10 := hbx8.below hb810
    have hh10 := hh9.below hbA10
    have bt10 := FX8.now.1.below hb810
    have cx : Chg [W.heap.size] ((w8.alloc (.cells #[.int .i64 0, .int .i64 n, .pointer (some ⟨f, 0, none⟩)] 169)).alloc (.cells #[.int .i64 0, .int .i64 n] 166)) (((w8.alloc (.cells #[.int .i64 0, .int .i64 n, .pointer (some ⟨f, 0, none⟩)] 169)).alloc (.cells #[.int .i64 0, .int .i64 n] 166)).setCell ⟨W.heap.size, 1, none⟩ (.slice (some ⟨w8.heap.size + 1, 0, none⟩) 1 1)) := (Chg.refl _ _).setCell _ (.inl (by simp))
    have hne8 : w8.heap.size ≠ W.heap.size := by
     have := hc8.size
     omega
    have hh11 := hh10.chg cx (by simp; omega)
    have ha11 := ha10.chg cx (by
     have := hc8.size
     simp
     omega)
    have bt11 := bt10.chg cx (by simp; omega)
    have hbx11 := hbx10.store 1 (.slice (some ⟨w8.heap.size + 1, 0, none⟩) 1 1)
    have hbA12 := (Below.refl (((w8.alloc (.cells #[.int .i64 0, .int .i64 n, .pointer (some ⟨f, 0, none⟩)] 169)).alloc (.cells #[.int .i64 0, .int .i64 n] 166)).setCell ⟨W.heap.size, 1, none⟩ (.slice (some ⟨w8.heap.size + 1, 0, none⟩) 1 1)).heap.size (((w8.alloc (.cells #[.int .i64 0, .int .i64 n, .pointer (some ⟨f, 0, none⟩)] 169)).alloc (.cells #[.int .i64 0, .int .i64 n] 166)).setCell ⟨W.heap.size, 1, none⟩ (.slice (some ⟨w8.heap.size + 1, 0, none⟩) 1 1))).alloc (Nat.le_refl _) (.cells #[.int .i64 0, .int .i64 n, .pointer (some ⟨f, 0, none⟩)] 169)
    have hr12 := row3_box (BoxO.new (((w8.alloc (.cells #[.int .i64 0, .int .i64 n, .pointer (some ⟨f, 0, none⟩)] 169)).alloc (.cells #[.int .i64 0, .int .i64 n] 166)).setCell ⟨W.heap.size, 1, none⟩ (.slice (some ⟨w8.heap.size + 1, 0, none⟩) 1 1)) #[.int .i64 0, .int .i64 n, .pointer (some ⟨f, 0, none⟩)] 169) rfl
    rw [show (((w8.alloc (.cells #[.int .i64 0, .int .i64 n, .pointer (some ⟨f, 0, none⟩)] 169)).alloc (.cells #[.int .i64 0, .int .i64 n] 166)).setCell ⟨W.heap.size, 1, none⟩ (.slice (some ⟨w8.heap.size + 1, 0, none⟩) 1 1)).heap.size = w8.heap.size + 1 + 1 from by simp] at hr12
    have hA8 : Chg [W.heap.size] w8 ((((w8.alloc (.cells #[.int .i64 0, .int .i64 n, .pointer (some ⟨f, 0, none⟩)] 169)).alloc (.cells #[.int .i64 0, .int .i64 n] 166)).setCell ⟨W.heap.size, 1, none⟩ (.slice (some ⟨w8.heap.size + 1, 0, none⟩) 1 1)).alloc (.cells #[.int .i64 0, .int .i64 n, .pointer (some ⟨f, 0, none⟩)] 169)) := ((Chg.of_below hb810 [W.heap.size]).trans cx (fun g hg => .inl hg)).trans (Chg.of_below hbA12 []) (fun g hg => by cases hg)
    have ho12 := own_chg ho8 hA8 (fun g e hm => by
     have z1 := (HO7.out.lt g e).1
     have z2 := List.mem_singleton.1 hm
     omega)
    have hown : ∀ g, (Value.slice A3 Y.T.n c3).ownBlock = some g → W2.heap.size ≤ g ∧ g < w7.heap.size := fun g e => HO7.out.lt g e
    have bt12 := bt11.below hbA12
    have hbx12 := hbx11.below hbA12
    have ha12 := ha11.below hbA12
    have y1 := hbx10.cell 1
    have z1 := hbx10.free 1
    have u0 := hh11.cell 0
    have u1 := hh11.cell 1
    have u2 := hh11.cell 2
    have v0 := bt11.cell 0
    simp only [gE0, gE1] at y1 u0 u1 u2 v0
    obtain ⟨i0, hi0, hz0, hz1, hz2⟩ := info_parts info_held
    have hsz12 : w8.heap.size < ((((w8.alloc (.cells #[.int .i64 0, .int .i64 n, .pointer (some ⟨f, 0, none⟩)] 169)).alloc (.cells #[.int .i64 0, .int .i64 n] 166)).setCell ⟨W.heap.size, 1, none⟩ (.slice (some ⟨w8.heap.size + 1, 0, none⟩) 1 1)).alloc (.cells #[.int .i64 0, .int .i64 n, .pointer (some ⟨f, 0, none⟩)] 169)).heap.size := hh11.below hbA12 |>.lt
    have hw78 := hc8.size
    have HR9 := Lib.hid hR
    clear hR
    go_wp2_with (at_builtin; refine stop_in ?_)
    refine stop_out (wpList_appF rfl (.tmp 64) (.tmp 66) _ rfl W2.heap.size 169 i0 _ 3 24 Tryz.underlying73 hi0 hz0 hz1 hz2 rfl (by omega) ((((w8.alloc (.cells #[.int .i64 0, .int .i64 n, .pointer (some ⟨f, 0, none⟩)] 169)).alloc (.cells #[.int .i64 0, .int .i64 n] 166)).setCell ⟨W.heap.size, 1, none⟩ (.slice (some ⟨w8.heap.size + 1, 0, none⟩) 1 1)).alloc (.cells #[.int .i64 0, .int .i64 n, .pointer (some ⟨f, 0, none⟩)] 169)) (Below.refl _ _) (by omega) (.slice A3 Y.T.n c3) Y.T.n (hcells Y.q) rfl ho12 ((((w8.alloc (.cells #[.int .i64 0, .int .i64 n, .pointer (some ⟨f, 0, none⟩)] 169)).alloc (.cells #[.int .i64 0, .int .i64 n] 166)).setCell ⟨W.heap.size, 1, none⟩ (.slice (some ⟨w8.heap.size + 1, 0, none⟩) 1 1)).alloc (.cells #[.int .i64 0, .int .i64 n, .pointer (some ⟨f, 0, none⟩)] 169)).heap.size _ 1 1 (by omega) [.int .i64 0, .int .i64 n, .pointer (some ⟨f, 0, none⟩)] rfl hr12 (fun v hv => hcells_one [(((0, n), Tb.rows (St.live V)), f)] v (by simpa [hcells] using hv)) (Y.T.n + 1) (hcells (Y.q ++ [(((0, n), Tb.rows (St.live V)), f)])) rfl (by simp [hcells]) (by have := H30.out; unfold maxLen; omega) (by have := H30.out; omega) ?_)
    intro A4 c4 w13 p1 p2 p3 p4 p5 p6
    have hO : ∀ g ∈ (Value.slice A3 Y.T.n c3).ownBlock.toList, W2.heap.size ≤ g ∧ g < w3.heap.size := fun g hg => HA3.out g (Option.mem_toList.1 hg)
    have hcA : Chg (Value.slice A3 Y.T.n c3).ownBlock.toList ((((w8.alloc (.cells #[.int .i64 0, .int .i64 n, .pointer (some ⟨f, 0, none⟩)] 169)).alloc (.cells #[.int .i64 0, .int .i64 n] 166)).setCell ⟨W.heap.size, 1, none⟩ (.slice (some ⟨w8.heap.size + 1, 0, none⟩) 1 1)).alloc (.cells #[.int .i64 0, .int .i64 n, .pointer (some ⟨f, 0, none⟩)] 169)) w13 := Chg.of_grown p3 (fun b e => by rw [e]; exact List.mem_singleton.2 rfl)
    have hzz := HSZ.out
    have bt13 := bt12.chg hcA (fun hm => by
     have := hO _ hm
     omega)
    have ct : Chg [w3.heap.size] w13 (w13.setCell ⟨w3.heap.size, 0, none⟩ (.slice A4 (Y.T.n + 1) c4)) := (Chg.refl _ _).setCell _ (.inl (by simp))
    have hGall : ∀ g ∈ [W.heap.size, w3.heap.size] ++ (Value.slice A3 Y.T.n c3).ownBlock.toList, w.heap.size ≤ g ∧ g < w7.heap.size := fun g hg => by
     rcases List.mem_append.1 hg with q | q
     ·simp only [List.mem_cons, List.mem_nil_iff, or_false] at q
      omega
     ·have := hO g q
      omega
    have c14 : Chg ([W.heap.size, w3.heap.size] ++ (Value.slice A3 Y.T.n c3).ownBlock.toList) w8 (w13.setCell ⟨w3.heap.size, 0, none⟩ (.slice A4 (Y.T.n + 1) c4)) :=
     (((hA8.mono (G := [W.heap.size, w3.heap.size] ++ (Value.slice A3 Y.T.n c3).ownBlock.toList) fun g hg => .inl (by rw [List.mem_singleton.1 hg]; simp)).trans hcA (fun g hg => .inl (List.mem_append_right _ hg)))).trans ct (fun g hg => .inl (by rw [List.mem_singleton.1 hg]; simp))
    have k14 : Way w X Y V (w13.setCell ⟨w3.heap.size, 0, none⟩ (.slice A4 (Y.T.n + 1) c4)) X8 S8 := Way.scr HH.out k8 (fun g hg => ⟨(hGall g hg).1, (hnx g (hGall g hg).1 (hGall g hg).2).2⟩) c14
    have hbx14 := (hbx12.chg hcA (fun hm => by
     have := hO _ hm
     omega)).chg ct (fun hm => by
     have := List.mem_singleton.1 hm
     omega)
    have bt14 := bt13.store 0 (.slice A4 (Y.T.n + 1) c4)
    have e9 : (w8.alloc (.cells #[.int .i64 0, .int .i64 n, .pointer (some ⟨f, 0, none⟩)] 169)).heap.size = w8.heap.size + 1 := by simp
    have e12 : ((((w8.alloc (.cells #[.int .i64 0, .int .i64 n, .pointer (some ⟨f, 0, none⟩)] 169)).alloc (.cells #[.int .i64 0, .int .i64 n] 166)).setCell ⟨W.heap.size, 1, none⟩ (.slice (some ⟨w8.heap.size + 1, 0, none⟩) 1 1)).alloc (.cells #[.int .i64 0, .int .i64 n, .pointer (some ⟨f, 0, none⟩)] 169)).heap.size = w8.heap.size + 3 := by simp
    rw [e9] at ha12
    have ha14 := (ha12.chg hcA (fun hm => by
     have := hO _ hm
     omega)).chg ct (fun hm => by
     have := List.mem_singleton.1 hm
     omega)
    have hlt8 := k8.at_.lt
    have hA4 : ∀ a, A4 = some a → (W2.heap.size ≤ a.block ∧ a.block < w3.heap.size) ∨ a.block = w8.heap.size + 3 := fun a ha => by
     obtain ⟨P', c0, q1, q2, q3, q4⟩ := own_form p1
     injection q1 with q1 _ qc
     subst q1
     obtain ⟨_, _, s1, s2⟩ := q4 a ha
     subst ha
     obtain ⟨ab, ao, as_⟩ := a
     simp only at s1 s2
     subst s1 s2
     rcases p6 with p6 | p6
     ·exact .inl (HA3.out ab (by rw [← p6]; simp [Value.ownBlock]))
     ·right
      rw [e12] at p6
      simpa [Value.ownBlock] using p6
    have hgs14 := FX8.now.2.1.chg c14 (fun hm => by
     rcases List.mem_append.1 hm with q | q
     ·simp only [List.mem_cons, List.mem_nil_iff, or_false] at q
      omega
     ·have := hO _ q
      omega)
    have hX8 : ∀ g, w.heap.size ≤ g → g < w7.heap.size → g ≠ W.heap.size → g ∉ W.heap.size :: XY X8 Y := fun g h1 h2 h3 hm => by
     rcases List.mem_cons.1 hm with q | q
     ·exact h3 q
     ·exact (hnx g h1 h2).2 q
    have hXn : ∀ g, w8.heap.size ≤ g → g ∉ W.heap.size :: XY X8 Y := fun g h1 hm => by
     rcases List.mem_cons.1 hm with q | q
     ·omega
     ·have := hlt8 g q
      omega
    have hM : FlM w X Y V W.heap.size w3.heap.size R S.load (w13.setCell ⟨w3.heap.size, 0, none⟩ (.slice A4 (Y.T.n + 1) c4)) S8 X8 (some ⟨w8.heap.size + 1, 0, none⟩) 1 1 [(0, n)] ⟨A4, Y.T.n + 1, c4⟩ (Y.q ++ [(((0, n), Tb.rows (St.live V)), f)]) (V.tabs ++ [((0, n), Tb.rows (St.live V))]) := by
     refine ⟨k14, hbx14, Nat.le_refl _, fun W' c' => ⟨bt14.chg c' (hX8 _ (by omega) (by omega) (by omega)), hgs14.chg c' (hX8 _ (by omega) (by omega) (by omega)), row2_box (ha14.chg c' (hXn _ (by omega))) rfl, by simp [HQ.out], ?_, p4, p5, own_none p1, fun p hp => ?_⟩, HR9.out, hal, fun a ha => ?_, (hnx _ (by omega) (by omega)).2, ?_⟩
     ·refine (row_chg c' ((row_chg ct (Row.own p1) (Nat.le_refl _) (fun j _ a ha hm => ?_)).up ct.size) (Nat.le_refl _) (fun j _ a ha => ?_)).up c'.size
      ·have q1 := List.mem_singleton.1 hm
       rcases hA4 a ha with q | q <;> omega
      ·rcases hA4 a ha with q | q
       ·exact hX8 _ (by omega) (by omega) (by omega)
       ·exact hXn _ (by omega)
     ·rcases List.mem_append.1 hp with q | q
      ·exact (Way.tabs HH.out k14 (G := W.heap.size :: XY X8 Y) (fun g hg => by
        rcases List.mem_cons.1 hg with q | q
        ·exact .inr (by omega)
        ·exact .inl q) W' c').2.2.2.2.2 p q
      ·rw [List.mem_singleton.1 q]
       refine HFT.out ([W.heap.size, w3.heap.size] ++ (Value.slice A3 Y.T.n c3).ownBlock.toList ++ XY X8 Y) (fun g hg => ?_) W' ((c14.mono fun g hg => .inl (List.mem_append_left _ hg)).trans c' (fun g hg => ?_))
       ·rcases List.mem_append.1 hg with q | q
        ·exact .inr (hGall g q).2
        ·exact .inl q
       ·rcases List.mem_cons.1 hg with q | q
        ·exact .inl (by rw [q]; simp)
        ·exact .inl (List.mem_append_right _ q)
     ·injection ha with ha
      subst ha
      have q1 := hXn (w8.heap.size + 1) (by omega)
      exact ⟨fun hm => q1 (List.mem_cons_of_mem _ hm), fun e => q1 (by rw [show w8.heap.size + 1 = W.heap.size from e]; exact List.mem_cons_self), ha14.lt⟩
     ·exact ⟨by omega, by omega, bt14.lt, fun hm => (hnx _ (by omega) (by omega)).2 hm⟩
    have HM := Lib.hid hM
    have v1 := bt13.cell 0
    have v2 := bt13.free 0
    simp only [gE0] at v1
    clear hM hA4 hgs14 hX8 hXn ha14 bt14 hbx14 k14 c14 hGall ct bt13 hcA hO hlt8 p1 p2 p3 p4 p5 p6 e9 e12 hzz
    go_wp2_with fail
    go_meet
    case rel => exact ⟨_, _, _, _, _, _, _, _, _, HM.out⟩
   ·have e3 : ((er8 : Int) == 0) = false := by simp; omega
    have hR := HR8.out
    rw [if_pos h8] at hR
    have HZ : Hid (∀ w', Below w8.heap.size w8 w' → SvPost X Y w R (.returned (.int .i64 (er8 : Int))) w') := Lib.hid fun w' hb => by
     rw [hR]
     exact ⟨rfl, (k8.below hb).upd⟩
    have hbz := (Below.refl w8.heap.size w8).alloc (Nat.le_refl _) (.cells #[.int .i64 va, .int .i64 vb, .pointer vp] 169)
    have HY := Lib.hid (HZ.out _ hbz)
    clear hR h8 hok k8 hs8 hc8 hf8 e8 hbz HZ
    go_wp2
    go_ret
    exact HY.out
   all_goals omega
 case rest =>
  obtain ⟨S2, X2, AF, nf, cf, add, T, q, ts, hm⟩ := hcut
  have hlr := hm.load
  have hnf := hm.nf1
  have hfl := fresh_load S2
  have t0 := hm.fix.now.2.1.cell 0
  simp only [gE0] at t0
  have hfr := sfresh_any hm.way.at_ (by omega)
  have hnb := number_le S2
  have hR := hm.res
  unfold St.flush2 at hR
  obtain ⟨n, hn⟩ : ∃ n, n = St.number S2 := ⟨_, rfl⟩
  rw [← hn] at hfr hR hnb
  obtain ⟨a, ha⟩ : ∃ a, a = St.fresh S2 := ⟨_, rfl⟩
  rw [← ha] at hfr hR hfl
  obtain ⟨S5, er5⟩ := a
  unfold SfPost at hfr
  simp only at hfr hR hfl
  have HFR := Lib.hid hfr
  have HR2 := Lib.hid hR
  have HM := Lib.hid hm
  have hzz := HSZ.out
  clear hfr hR ha hn hm HHK HI7 HFX7 HBX7 HO7 HK7 HR HA3
  go_wp2_with fail
  with_reducible refine HFR.out.mono ?_
  rintro e w5 ⟨p5, n5, X5, rfl, e5, hs5, hc5, hf5, hok⟩
  have hm := HM.out
  have k5 : Way w X Y V w5 X5 S5 := ⟨hs5, e5.trans hm.way.d, hm.way.c.trans hc5 hm.way.f, fun g hg => by
   rcases hf5 g hg with q | q
   ·exact hm.way.f g q
   ·exact .inr (Nat.le_trans hm.way.c.size q)⟩
  have hbA5 := (Below.refl w5.heap.size w5).alloc (Nat.le_refl _) (.cells #[.pointer p5] 71)
  have hbg := BoxO.new w5 #[.pointer p5] 71
  by_cases h5 : er5 = 0
  ·subst h5
   obtain ⟨g, hp5, hn5, hlg, hg0, hg1⟩ := hok rfl
   have hn52 := hn5.symm
   clear hok hn5
   subst hp5 hn52
   have hR := HR2.out
   rw [if_neg (by simp)] at hR
   have hgxw : W.heap.size < wc.heap.size := hm.box.lt
   have hgx2 : W.heap.size ∉ XY X2 Y := hm.gxo
   have hgx5 : W.heap.size ∉ XY X5 Y := fun hmm => by
    rcases hf5 _ hmm with q | q
    ·exact hgx2 q
    ·omega
   have hx5lt := k5.at_.lt
   have hbx6 := (hm.box.chg hc5 hgx2).below hbA5
   have cx : Chg [W.heap.size] (w5.alloc (.cells #[.pointer (some ⟨g, 0, none⟩)] 71)) ((w5.alloc (.cells #[.pointer (some ⟨g, 0, none⟩)] 71)).setCell ⟨W.heap.size, 2, none⟩ (.int .i64 n)) := (Chg.refl _ _).setCell _ (.inl (by simp))
   have hbx7 := hbx6.store 2 (.int .i64 n)
   have k7 : Way w X Y V ((w5.alloc (.cells #[.pointer (some ⟨g, 0, none⟩)] 71)).setCell ⟨W.heap.size, 2, none⟩ (.int .i64 n)) X5 S5 := Way.scr HH.out (k5.below hbA5) (G := [W.heap.size]) (fun g hg => by rw [List.mem_singleton.1 hg]; exact ⟨by omega, hgx5⟩) cx
   have hgl5 := hlg.lt
   have hw5 : wc.heap.size ≤ w5.heap.size := hc5.size
   have hbg7 := hbg.chg cx (fun hmm => by have := List.mem_singleton.1 hmm; omega)
   have hlg7 := (hlg.below hbA5).chg cx (fun hmm => by have := List.mem_singleton.1 hmm; omega)
   have c57 : Chg (W.heap.size :: XY X2 Y) wc ((w5.alloc (.cells #[.pointer (some ⟨g, 0, none⟩)] 71)).setCell ⟨W.heap.size, 2, none⟩ (.int .i64 n)) := ((hc5.mono fun g hg => .inl (List.mem_cons_of_mem _ hg)).trans (Chg.of_below hbA5 []) (fun g hg => by cases hg)).trans cx (fun g hg => .inl (by rw [List.mem_singleton.1 hg]; exact List.mem_cons_self))
   have f57 : ∀ g ∈ W.heap.size :: XY X5 Y, g ∈ W.heap.size :: XY X2 Y ∨ wc.heap.size ≤ g := fun g hg => by
    rcases List.mem_cons.1 hg with q | q
    ·exact .inl (by rw [q]; exact List.mem_cons_self)
    ·exact (hf5 g q).imp (List.mem_cons_of_mem _) id
   have FX7 := hm.fix.step c57 f57
   have x2 := hbx6.cell 2
   have y2 := hbx6.free 2
   have t7 := FX7.now.2.1.cell 0
   have t1 := k7.at_.box.cell 1
   simp only [Yw.cells, gE0, gE1] at x2 t7 t1
   have hvw := gmview_any X5.d k7.at_.man k7.at_.row.row k7.at_.row.nb
   unfold Vw.val at hvw
   have HVW := Lib.hid hvw
   have HR3 := Lib.hid hR
   have HK7 := Lib.hid k7
   have HFX := Lib.hid FX7
   have HC57 := Lib.hid (And.intro c57 f57)
   have HBX := Lib.hid hbx7
   have HBG := Lib.hid hbg7
   have HLG := Lib.hid (And.intro hlg7 (And.intro hg0 (And.intro hg1 (And.intro hgl5 (And.intro hw5 hgxw)))))
   have HX5 := Lib.hid (And.intro hx5lt hgx5)
   have HE5 := Lib.hid e5
   have hfl2 : S5.load ≤ S.load + 6 := by omega
   clear hvw hR k7 FX7 c57 f57 hbx7 hbg7 hlg7 hbx6 hbg cx hg0 hg1 hgl5 hw5 hgxw hgx2 hgx5 hx5lt k5 hs5 hc5 hf5 e5 hbA5 hm HFR HR2 hlg hfl hlr
   go_wp2_with fail
   generalize hU7 : ((w5.alloc (.cells #[.pointer (some ⟨g, 0, none⟩)] 71)).setCell ⟨W.heap.size, 2, none⟩ (.int .i64 n)) = w7 at *
   with_reducible refine HVW.out.mono ?_
   rintro e w8 ⟨A8, c8, rfl, hfr8, hb8⟩
   have k8 := HK7.out.below hb8
   have hnm := name_any (str Mn.kLog) (by rw [str_size]; decide) V.M.v.log (by omega) w8 k8.at_.dm.env
   rw [list_str] at hnm
   rw [show str Mn.kLog = ({ data := #[108, 111, 103] } : ByteArray) from rfl] at hnm
   obtain ⟨el, hel⟩ : ∃ el, el = Mn.name Mn.kLog V.M.v.log := ⟨_, rfl⟩
   have hell : el.length ≤ 1000 := by rw [hel]; exact sname_len _ _
   have hR := HR3.out
   rw [← hel] at hnm hR
   have hfd : ∀ W', (Instr.field 134 (.agg #[.int .i64 V.M.v.log, .slice A8 Y.P.n c8, .int .u64 (V.M.v.floor : Int), .int .u64 (V.M.v.cert : Int), .int .u64 (V.M.v.at_ : Int), .int .u64 (V.M.v.lease : Int)]) 0).run Tryz.prog W' = .ok (.int .i64 V.M.v.log) W' := fun _ => rfl
   have HNM := Lib.hid hnm
   have HR4 := Lib.hid hR
   clear hnm hel hR HR3 HVW hfr8 x2 y2 t1 t7 hU7
   go_wp2_with fail
   with_reducible refine HNM.out.mono ?_
   rintro e w9 ⟨rfl, hb9⟩
   have hb79 := later_ hb8 hb9
   have k9 := k8.below hb9
   have FX9 := HFX.out.below hb79
   have hbx9 := HBX.out.below hb79
   have hbg9 := HBG.out.below hb79
   have hlg9 := HLG.out.1.below hb79
   have t9 := FX9.now.2.1.cell 0
   have b0 := hbx9.cell 0
   have b1 := hbx9.cell 1
   have b2 := hbx9.cell 2
   have b3 := hbx9.cell 3
   have b4 := hbx9.cell 4
   have b5 := hbx9.cell 5
   have b6 := hbx9.cell 6
   simp only [List.set, gE0, gE1] at t9 b0 b1 b2 b3 b4 b5 b6
   have hz79 := hb79.size
   have hz57 : w5.heap.size < w7.heap.size := HBG.out.lt
   have hout := HM.out.out
   have hgtx := HM.out.gtx
   have hsd : Y.s < w.heap.size := hzz.2.2.1
   have hTU : Turns w.heap.size w9 X5 Y V 99 #[.pointer (some ⟨w3.heap.size, 0, none⟩), .pointer (some ⟨w5.heap.size, 0, none⟩), .pointer (some ⟨w.heap.size, 0, none⟩)] (St.turned n ts) := by
    intro w1 X1 P1 S1 M1 b e1 hc1 hf1 hP1 hs1
    have hfl := FX9 w1 (hc1.mono fun g hg => .inl (List.mem_cons_of_mem _ hg))
    have hgo : w5.heap.size ∉ XY X5 Y := fun hmm => by have := HX5.out.1 _ hmm; omega
    have hz1 := hc1.size
    refine sflush1_any (w0 := w) HH.out (k9.c.trans hc1 k9.f) (fun g hg => ?_) hs1 w3.heap.size w5.heap.size w.heap.size g T q n ts hfl.1 (hbg9.chg hc1 hgo) hfl.2.1 (by omega) (by have := HLG.out.2.2.2.2.1; have := HLG.out.2.2.2.2.2; omega) (by omega) ?_ (by have := HLG.out.2.1; have := HM.out.way.c.size; omega) (fun hmm => ?_) (hP1.imp id (fun z a ha => ?_)) ?_
    ·rcases hf1 g hg with z | z
     ·exact k9.f g z
     ·exact .inr (Nat.le_trans k9.c.size z)
    ·rw [e1, HE5.out]
     exact hlg9.chg hc1 HLG.out.2.2.1
    ·rcases hf1 g hmm with z | z
     ·exact HLG.out.2.2.1 z
     ·have := HLG.out.2.2.2.1
      omega
    ·have := z a ha
     have := HLG.out.2.2.2.1
     omega
    ·refine (HM.out.fix.step ((HC57.out.1.trans (Chg.of_below hb79 []) (fun g hg => by cases hg)).trans hc1 (fun g hg => ?_)) (fun g' hg => ?_)).mono (fun W' hq => hq.2.2.2)
     ·exact HC57.out.2 g (List.mem_cons_of_mem _ hg)
     ·rcases List.mem_cons.1 hg with z | z
      ·exact .inr (by rw [z]; exact HLG.out.2.1)
      ·rcases hf1 g' z with z | z
       ·exact HC57.out.2 g' (List.mem_cons_of_mem _ z)
       ·have := HLG.out.2.2.2.2.1
        exact .inr (by omega)
   have htn := sturn_any k9.at_ ⟨[], add, n, 0, 0, 0, 0⟩ none 0 0 AF nf cf (by omega) (by omega) Row.nil_ FX9.now.2.2.1 (fun a ha => by cases ha) (fun a ha hmm => by
    have z1 := hout a ha
    have z2 := HC57.out.2 a.block (List.mem_cons_of_mem _ hmm)
    rcases z2 with z | z
    ·rcases List.mem_cons.1 z with z | z
     ·exact z1.2.1 z
     ·exact z1.1 z
    ·omega) hvf hc0 hnl 99 _ (St.turned n ts) (fun _ _ => rfl) (B := w.heap.size) k9.c.size hTU
   obtain ⟨r, hr⟩ : ∃ r, r = St.turn S5 V ⟨[], add, n, 0, 0, 0, 0⟩ (St.turned n ts) := ⟨_, rfl⟩
   have hrl : r.1.load ≤ S5.load := by rw [hr]; exact turn_load _ _ _ _
   have hR := HR4.out
   unfold Ed.val at htn
   simp only [Int.natCast_zero] at htn
   rw [← hr] at htn
   replace hR : R = if r.2.2 = 0 then ((r.1.remove el).1, r.2.1, 0) else r := by rw [hR, hr]
   obtain ⟨S10, V10, er10⟩ := r
   simp only at htn hR hrl
   have HTN := Lib.hid htn
   have HR5 := Lib.hid hR
   have HK9 := Lib.hid k9
   have HFX9 := Lib.hid FX9
   clear htn hTU hR hr HR4 HNM k8 k9 FX9 hbx9 hbg9 hlg9 hb79 hb8 hb9 hout hgtx hsd HBX HBG HFX HK7
   go_wp2_with fail
   clear hfd t9 b0 b1 b2 b3 b4 b5 b6
   with_reducible refine HTN.out.mono ?_
   rintro e w10 ⟨rfl, X10, Y10, e10, ey10, hs10, hc10, hf10⟩
   have hcw := HK9.out.c.trans hc10 HK9.out.f
   have hfw : ∀ g ∈ XY X10 Y10, g ∈ XY X Y ∨ w.heap.size ≤ g := fun g hg => by
    rcases hf10 g hg with z | z
    ·exact HK9.out.f g z
    ·exact .inr z
   have hed : X10.d = X.d := e10.trans HK9.out.d
   have hR := HR5.out
   by_cases h10 : er10 = 0
   ·subst h10
    rw [if_pos rfl] at hR
    have hgs := (HFX9.out w10 (hc10.mono fun g hg => .inl (List.mem_cons_of_mem _ hg))).2.1
    have t10 := hgs.cell 0
    have d10 := hs10.box.cell 0
    rw [ey10] at d10
    simp only [Yw.cells, gE0, gE1] at t10 d10
    have hrm := (Acc.start (F := []) hs10.dm).remove (str el) (by rw [str_size]; unfold maxLen; omega) (by omega)
    rw [list_str] at hrm
    obtain ⟨a, ha⟩ : ∃ a, a = S10.remove el := ⟨_, rfl⟩
    rw [← ha] at hrm hR
    obtain ⟨S11, er11⟩ := a
    simp only at hrm hR
    have HRM := Lib.hid hrm
    have HS := Lib.hid hs10
    have HC := Lib.hid (And.intro hcw (And.intro hfw (And.intro hed ey10)))
    have HR6 := Lib.hid hR
    clear hrm hs10 hcw hfw hed hR ha hgs HTN e10 ey10 hc10 hf10
    go_wp2_with fail
    with_reducible refine HRM.out.mono ?_
    rintro e w11 ⟨rfl, Xq, hq⟩
    obtain ⟨X11, e11, h11, hc11, hf11⟩ := HS.out.disk hq.updM
    have hz : SvPost X Y w R (.returned (.int .i64 0)) w11 := by
     rw [HR6.out]
     refine ⟨rfl, X11, Y10, e11.trans HC.out.2.2.1, HC.out.2.2.2, h11, HC.out.1.trans hc11 HC.out.2.1, fun g hg => ?_⟩
     rcases hf11 g hg with z | z
     ·exact HC.out.2.1 g z
     ·exact .inr (Nat.le_trans HC.out.1.size z)
    have HZ := Lib.hid hz
    clear hz hq h11 hc11 hf11 e11 t10 d10 HRM
    go_wp2
    go_ret
    exact HZ.out
   ·have e3 : ((er10 : Int) == 0) = false := by simp; omega
    rw [if_neg h10] at hR
    have hz : SvPost X Y w R (.returned (.int .i64 (er10 : Int))) w10 := by
     rw [hR]
     exact ⟨rfl, X10, Y10, hed, ey10, hs10, hcw, hfw⟩
    have HZ := Lib.hid hz
    clear hz hR h10 hcw hfw hed hs10 hc10 hf10 e10 ey10 HTN
    go_wp2
    go_ret
    exact HZ.out
  ·have e3 : ((er5 : Int) == 0) = false := by simp; omega
   have hR := HR2.out
   rw [if_pos h5] at hR
   have hz : SvPost X Y w R (.returned (.int .i64 (er5 : Int))) (w5.alloc (.cells #[.pointer p5] 71)) := by
    rw [hR]
    exact ⟨rfl, (k5.below hbA5).upd⟩
   have HZ := Lib.hid hz
   clear hz hR h5 hok k5 hs5 hc5 hf5 e5 hbA5 hbg HR2 hm
   go_wp2
   go_ret
   exact HZ.out
end
section
open Go Go.RowKit Go.Lib Go.Shelf
variable {w w1 w2 : World} {X X1 X2 : Dw} {S S1 S2 : Sd} {Y Y1 Y2 : Yw} {V V1 V2 : Sv}
theorem SvUpd.c (h : SvUpd X Y w w1 S V) : Chg (XY X Y) w w1 := let ⟨_, _, _, _, _, c, _⟩ := h; c
def Aw.yc : List Value := #[.int .i64 3, .int .i64 2, .int .u64 7, .int .u64 9, .int .i64 5].toList
theorem Aw.yfit : Aw.y.fit := by unfold It.fit Aw.y; decide
theorem Aw.row {W : World} {g : Nat} (h : BoxO W 27 g Aw.yc) : Row W.heap.size W (some ⟨g, 0, none⟩) 1 5 (itc [Aw.y]) := irow_box (x := Aw.y) h
theorem aw_apply (h : SvAt w X Aw.S0 Y Aw.V0) (g c : Nat) (hg : BoxO w 27 g Aw.yc) (ho : g ∉ XY X Y) :
  Calls Tryz.prog 9 #[.pointer (some ⟨Y.s, 0, none⟩), .slice (some ⟨g, 0, none⟩) 1 c] w fun e w' => e = .returned (.int .i64 0) ∧ SvUpd X Y w w' Aw.r1.1 Aw.r1.2.1 := by
 obtain ⟨a1, a2, a3, a4, a5⟩ := Aw.f0
 refine (sapply_any h (some ⟨g, 0, none⟩) 1 c [Aw.y] (by omega) (Aw.row hg) (fun a ha => by injection ha with ha; subst ha; exact ho) (fun x hx => by rw [List.mem_singleton.1 hx]; exact Aw.yfit) (by rw [a1]; exact Stt.nil) (by rw [a1]; simp) (by omega) (by omega) (by rw [a2]; simp) a5).mono fun e w' ⟨q1, q2⟩ => ⟨by rw [q1, Aw.f1]; rfl, q2⟩
theorem aw_flush (h : SvAt w X Aw.r1.1 Y Aw.r1.2.1) :
  Calls Tryz.prog 37 #[.pointer (some ⟨Y.s, 0, none⟩)] w fun e w' => e = .returned (.int .i64 0) ∧ SvUpd X Y w w' Aw.r2.1 Aw.r2.2.1 := by
 obtain ⟨a1, a2, a3, a4, a5, a6, a7, a8⟩ := Aw.f2
 refine (sflush_any h a3 (fun x hx => by rw [a1] at hx; rw [List.mem_singleton.1 hx]; exact Aw.yfit) (by rw [a1]; simp) (by rw [a2]; simp) a4 a5 a6 a7 a8).mono fun e w' ⟨q1, q2⟩ => ?_
 rw [Aw.flushed] at q1 q2
 exact ⟨by rw [q1, Aw.f3]; rfl, q2⟩
theorem aw_get (h : SvAt w X S Y V) (hs : V.st = [Aw.y]) :
  Calls Tryz.prog 38 #[.pointer (some ⟨Y.s, 0, none⟩), .int .i64 3, .int .u64 7] w fun e w' => e = .returned (.tuple #[.agg #[.int .i64 3, .int .i64 2, .int .u64 7, .int .u64 9, .int .i64 5], .bool true]) ∧ Below w.heap.size w w' := by
 refine (sgetS_any h (by rw [hs]; simp) 3 7).mono fun e w' ⟨q1, q2⟩ => ⟨?_, q2⟩
 rw [q1, hs]
 rfl
theorem aw_stats (h : SvAt w X S Y V) (hs : V.tabs.length = 1) :
  Calls Tryz.prog 11 #[.pointer (some ⟨Y.s, 0, none⟩)] w fun e w' => (∃ a b d f, e = .returned (.agg #[.int .i64 a, .int .i64 b, .int .i64 1, .int .i64 d, .bool f])) ∧ Below w.heap.size w w' := by
 refine (sstats_any h (by omega)).mono fun e w' ⟨q1, q2⟩ => ⟨⟨(V.st.length : Int), (V.mem.length : Int), (V.ct : Int), V.only, ?_⟩, q2⟩
 rw [q1, hs]
 rfl
theorem wawake_any (he : Env w) : Calls Tryz.prog 12 #[] w fun e w' => e = .returned (.bool true) ∧ Below w.heap.size w w' := by
 have hnw := wnew_any 1048576 (by omega) he Aw.S0 Aw.V0 Aw.born
 have HNW := Lib.hid hnw
 clear hnw he
 go_enter Tryz.func12, Tryz.ntmps12
 go_wp2_with fail
 with_reducible refine HNW.out.mono ?_
 rintro e w1 ⟨gw, X, Y, rfl, hw⟩
 have hbA := (Below.refl w1.heap.size w1).alloc (Nat.le_refl _) (.cells #[.int .i64 3, .int .i64 2, .int .u64 7, .int .u64 9, .int .i64 5] 27)
 have hby : BoxO (w1.alloc (.cells #[.int .i64 3, .int .i64 2, .int .u64 7, .int .u64 9, .int .i64 5] 27)) 27 w1.heap.size Aw.yc := BoxO.new w1 #[.int .i64 3, .int .i64 2, .int .u64 7, .int .u64 9, .int .i64 5] 27
 have hw2 := hw.below hbA
 have hlt := hw.at_.lt
 have hgl := hw.box.lt
 generalize hW2 : w1.alloc (.cells #[.int .i64 3, .int .i64 2, .int .u64 7, .int .u64 9, .int .i64 5] 27) = W2 at *
 have HW2 := Lib.hid hw2
 have HBY := Lib.hid hby
 have HLT := Lib.hid hlt
 have HBA := Lib.hid (And.intro hbA hgl)
 have HOUT : Hid (gw ∉ XY X Y ∧ w1.heap.size ∉ XY X Y) := Lib.hid ⟨hw.out, fun hm => by have := hlt _ hm; omega⟩
 have HAP : Hid (∀ W' g c, Below W2.heap.size W2 W' → BoxO W' 27 g Aw.yc → W2.heap.size ≤ g → Calls Tryz.prog 9 #[.pointer (some ⟨Y.s, 0, none⟩), .slice (some ⟨g, 0, none⟩) 1 c] W' fun e w' => e = .returned (.int .i64 0) ∧ SvUpd X Y W' w' Aw.r1.1 Aw.r1.2.1) := Lib.hid fun W' g c hb hg hl => aw_apply (hw2.at_.below hb) g c hg (fun hm => by have := hlt g hm; have := hbA.size; omega)
 have HS0 : Hid (BoxO W2.drew 34 gw [.pointer (some ⟨X.d, 0, none⟩), .pointer (some ⟨Y.s, 0, none⟩), .slice none 0 0, .int .u64 0, .int .u64 0, .int .u64 0, .int .u64 0] ∧ BoxO W2.drew 27 w1.heap.size Aw.yc) := Lib.hid ⟨hw2.box, hby⟩
 clear hw hw2 hby hlt hbA hgl HNW
 go_wp2_with fail
 clear hW2
 refine wp_region_held_drew (S := fun w' => BoxO w' 34 gw [.pointer (some ⟨X.d, 0, none⟩), .pointer (some ⟨Y.s, 0, none⟩), .slice none 0 0, .int .u64 0, .int .u64 0, .int .u64 0, .int .u64 0] ∧ BoxO w' 27 w1.heap.size Aw.yc) rfl HS0.out (fun hSw => ?_)
 refine wpT (i := 0) (v := ?vaw0) ?haw0 hSw ?kaw0
 case haw0 => (intro w hSw; (have k1 := hSw.1.cell 1; have y0 := hSw.2.cell 0; have y1 := hSw.2.cell 1; have y2 := hSw.2.cell 2; have y3 := hSw.2.cell 3; have y4 := hSw.2.cell 4; simp only [Aw.yc, gE0, gE1] at k1 y0 y1 y2 y3 y4); go_simp; try (with_reducible rfl))
 go_simp
 refine wpT (i := 1) (v := ?vaw1) ?haw1 hSw ?kaw1
 case haw1 => (intro w hSw; (have k1 := hSw.1.cell 1; have y0 := hSw.2.cell 0; have y1 := hSw.2.cell 1; have y2 := hSw.2.cell 2; have y3 := hSw.2.cell 3; have y4 := hSw.2.cell 4; simp only [Aw.yc, gE0, gE1] at k1 y0 y1 y2 y3 y4); go_simp; try (with_reducible rfl))
 go_simp
 refine wpT (i := 2) (v := ?vaw2) ?haw2 hSw ?kaw2
 case haw2 => (intro w hSw; (have k1 := hSw.1.cell 1; have y0 := hSw.2.cell 0; have y1 := hSw.2.cell 1; have y2 := hSw.2.cell 2; have y3 := hSw.2.cell 3; have y4 := hSw.2.cell 4; simp only [Aw.yc, gE0, gE1] at k1 y0 y1 y2 y3 y4); go_simp; try (with_reducible rfl))
 go_simp
 refine wpT (i := 3) (v := ?vaw3) ?haw3 hSw ?kaw3
 case haw3 => (intro w hSw; (have k1 := hSw.1.cell 1; have y0 := hSw.2.cell 0; have y1 := hSw.2.cell 1; have y2 := hSw.2.cell 2; have y3 := hSw.2.cell 3; have y4 := hSw.2.cell 4; simp only [Aw.yc, gE0, gE1] at k1 y0 y1 y2 y3 y4); go_simp; try (with_reducible rfl))
 go_simp
 refine wpT (i := 4) (v := ?vaw4) ?haw4 hSw ?kaw4
 case haw4 => (intro w hSw; (have k1 := hSw.1.cell 1; have y0 := hSw.2.cell 0; have y1 := hSw.2.cell 1; have y2 := hSw.2.cell 2; have y3 := hSw.2.cell 3; have y4 := hSw.2.cell 4; simp only [Aw.yc, gE0, gE1] at k1 y0 y1 y2 y3 y4); go_simp; try (with_reducible rfl))
 go_simp
 refine wpAnyH_ready (rs := [5]) (by kernel_rfl) (by simp) ?_
 refine AllReadyH.cons rfl (fun K hK => ?_) AllReadyH.nil
 skip
 go_simp
 refine hK.out _ _ ⟨hSw.1.alloc _, hSw.2.alloc _⟩ (fun hSn => ?_)
 clear hK K hSw
 have hSw := hSn
 clear hSn
 go_simp
 refine wpAnyH_ready (rs := [6]) (by kernel_rfl) (by simp) ?_
 refine AllReadyH.cons rfl (fun K hK => ?_) AllReadyH.nil
 go_simp
 with_reducible refine (HAP.out _ _ _ (by first | exact below_drew ((Below.refl _ _).alloc (Nat.le_refl _) _) | exact (below_drew (Below.refl _ _)).alloc (Nat.le_refl _) _) (by first | exact BoxO.new _ #[.int .i64 3, .int .i64 2, .int .u64 7, .int .u64 9, .int .i64 5] 27 | exact BoxO.drew (BoxO.new _ #[.int .i64 3, .int .i64 2, .int .u64 7, .int .u64 9, .int .i64 5] 27)) (Nat.le_refl _)).mono ?_
 rintro e w3 ⟨rfl, hu3⟩
 go_simp
 refine hK.out _ _ ⟨hSw.1.chg hu3.c HOUT.out.1, hSw.2.chg hu3.c HOUT.out.2⟩ (fun hSn => ?_)
 clear hK K hSw
 have hSw := hSn
 clear hSn
 go_simp
 refine wpT (i := 7) (v := ?vaw7) ?haw7 hSw ?kaw7
 case haw7 => (intro w hSw; (have k1 := hSw.1.cell 1; have y0 := hSw.2.cell 0; have y1 := hSw.2.cell 1; have y2 := hSw.2.cell 2; have y3 := hSw.2.cell 3; have y4 := hSw.2.cell 4; simp only [Aw.yc, gE0, gE1] at k1 y0 y1 y2 y3 y4); go_simp; try (with_reducible rfl))
 go_simp
 refine wpAnyH_done (by kernel_rfl) ?_ _
 obtain ⟨X4, Y4, h4, hf4⟩ := (HW2.out.below (by first | exact below_drew ((Below.refl _ _).alloc (Nat.le_refl _) _) | exact (below_drew (Below.refl _ _)).alloc (Nat.le_refl _) _)).upd hu3
 have hy4 := hSw.2
 have hlt4 := h4.at_.lt
 have hy4o : w1.heap.size ∉ XY X4 Y4 := fun hm => by
  rcases hf4 _ hm with q | q
  ·exact HOUT.out.2 q
  ·have q2 : W2.heap.size ≤ w1.heap.size := Nat.le_trans (by first | exact Nat.le_of_lt (by simp) | simp) q
   have := HBY.out.lt
   omega
 have hfl := aw_flush h4.at_
 have HFL := Lib.hid hfl
 have H4 := Lib.hid h4
 have HY4 := Lib.hid (And.intro hy4 hy4o)
 have b1 := h4.box.cell 1
 simp only [gE0, gE1] at b1
 clear hfl h4 hf4 hy4 hy4o hlt4 hu3 hSw HAP HS0 HW2 HBY HLT HBA HOUT
 go_wp2_with fail
 with_reducible refine HFL.out.mono ?_
 rintro e w5 ⟨rfl, hu5⟩
 obtain ⟨X6, Y6, h6, _⟩ := H4.out.upd hu5
 have hy6 := HY4.out.1.chg hu5.c HY4.out.2
 have hgt := aw_get h6.at_ Aw.f4.2
 have HGT := Lib.hid hgt
 have H6 := Lib.hid h6
 have HY6 := Lib.hid hy6
 have b1 := h6.box.cell 1
 simp only [gE0, gE1] at b1
 clear hgt h6 hy6 hu5 HFL H4 HY4
 go_wp2_with fail
 with_reducible refine HGT.out.mono ?_
 rintro e w7 ⟨rfl, hb7⟩
 have h7 := H6.out.below hb7
 have hy7 := HY6.out.below hb7
 have hbA := (Below.refl w7.heap.size w7).alloc (Nat.le_refl _) (.cells #[.int .i64 3, .int .i64 2, .int .u64 7, .int .u64 9, .int .i64 5] 27)
 have hbz := BoxO.new w7 #[.int .i64 3, .int .i64 2, .int .u64 7, .int .u64 9, .int .i64 5] 27
 have h8 := h7.below hbA
 have hy8 := hy7.below hbA
 generalize hW8 : w7.alloc (.cells #[.int .i64 3, .int .i64 2, .int .u64 7, .int .u64 9, .int .i64 5] 27) = W8 at *
 have hst := aw_stats h8.at_ Aw.f4.1
 have y0 := hy8.cell 0
 have y1 := hy8.cell 1
 have y2 := hy8.cell 2
 have y3 := hy8.cell 3
 have y4 := hy8.cell 4
 have z0 := hbz.cell 0
 have z1 := hbz.cell 1
 have z2 := hbz.cell 2
 have z3 := hbz.cell 3
 have z4 := hbz.cell 4
 have b1 := h8.box.cell 1
 simp only [Aw.yc, gE0, gE1] at y0 y1 y2 y3 y4 z0 z1 z2 z3 z4 b1
 have heq := it_equal Aw.y Aw.y
 have hfd : ∀ (a b d : Int) (f : Bool) W', (Instr.field 38 (.agg #[.int .i64 a, .int .i64 b, .int .i64 1, .int .i64 d, .bool f]) 2).run Tryz.prog W' = .ok (.int .i64 1) W' := fun _ _ _ _ _ => rfl
 have HST := Lib.hid hst
 have H8 := Lib.hid h8
 clear hst h8 h7 hy7 hy8 hbz hbA HGT H6 HY6 hb7
 simp only [Aw.y] at heq
 go_wp2_with fail
 with_reducible refine HST.out.mono ?_
 rintro e w9 ⟨⟨a, b, d, f, rfl⟩, hb9⟩
 have hz := later_ H8.out.bel hb9
 clear HST H8 hb9 y0 y1 y2 y3 y4 z0 z1 z2 z3 z4 b1 hW8
 go_wp2
 go_ret
 exact ⟨rfl, hz⟩
end
section
open Go
open Calm (mem_list)
theorem own_number {s : List UInt8} (h : St.isOwn s = false) : Mn.number s Mn.kMan = none ∧ Mn.number s Mn.kLog = none ∧ s ≠ Mw.kCur ∧ s ≠ Mw.kTemp := by
 unfold St.isOwn at h
 simp only [Bool.or_eq_false_iff, List.any_cons, List.any_nil, Bool.or_false] at h
 obtain ⟨⟨h1, h2⟩, h3, h4, h5⟩ := h
 refine ⟨by cases hq : Mn.number s Mn.kMan <;> simp [hq] at h5 ⊢, by cases hq : Mn.number s Mn.kLog <;> simp [hq] at h3 ⊢, by simpa using h1, by simpa using h2⟩
namespace Gw
open Mn
open Mw (kCur kTemp headB sweep man rest man_named man_cur man_temp man_inj cur_temp cur_named temp_named number_man number_cur number_temp sweep_none sweep_one list_nodup)
theorem rewrite_core2 {d : Sd} {M : Gs} (hv : M.v.ok = true) {k B : Nat} {K : List (List UInt8)} (h : Calm d) (hk1 : 1 ≤ k) (hk2 : k ≤ 1073741824) (hs0 : Small d K B) (hK : K.length ≤ 40) (ht0 : cont d kTemp = none) (hnone : cont d (man k) = none)
  (hB : 2100 ≤ B) (hq : (K.length + 4) * B ≤ d.quota) :
  ∃ d6, Calm d6 ∧ cont d6 = upd (upd (upd (upd (cont d) (man k) (some (M.v.whole.rec_))) kTemp (some (headB k))) kCur (some (headB k))) kTemp none ∧ d6.quota = d.quota ∧ rewrite d M (man k) = (sweep (man k) d6.list d6, { M with name := man k, count := 1 }, 0) := by
 have hr := Ed.rec_len (Vw.whole_may hv)
 have hh := headB_len k
 have hnum : (number (man k) kMan).getD 0 = (k : Int) := by rw [number_man hk1 hk2]; rfl
 obtain ⟨Q, hQ⟩ : ∃ Q, Q = K.length * B := ⟨_, rfl⟩
 have e1 : (K.length + 4) * B = Q + 4 * B := by rw [Nat.add_mul, ← hQ]
 have e2 : (K.length + 1) * B = Q + B := by rw [Nat.add_mul, ← hQ, Nat.one_mul]
 have e3 : (K.length + 1 + 1) * B = Q + 2 * B := by rw [Nat.add_assoc, Nat.add_mul, ← hQ]
 obtain ⟨a1, a2, a3, a4⟩ := h.write (man_named hk1 hk2) hnone hs0 (by omega) M.v.whole.rec_ (by omega) (by omega)
 have htk : kTemp ≠ man k := (man_temp hk1 hk2).symm
 have ht1 : cont (d.write (man k) M.v.whole.rec_).1 kTemp = none := by rw [a3, upd, if_neg htk]; exact ht0
 have hrd := a2.read_none temp_named ht1
 have hs1 : Small (d.write (man k) M.v.whole.rec_).1 (man k :: K) B := ⟨fun s x hx => by
  rw [a3, upd] at hx
  split at hx
  ·subst_vars; simp
  ·exact List.mem_cons_of_mem _ (hs0.names s x hx), fun s x hx => by
  rw [a3, upd] at hx
  split at hx
  ·injection hx with hx; subst hx; omega
  ·exact hs0.len s x hx⟩
 obtain ⟨b1, b2, b3, b4⟩ := a2.write temp_named ht1 hs1 (by simp; omega) (headB k) (by omega) (by rw [List.length_cons]; omega)
 obtain ⟨e1, e2, e3, e4⟩ := b2.syncDir
 have htm : cont ((d.write (man k) M.v.whole.rec_).1.write kTemp (headB k)).1.syncDir.1 kTemp = some (headB k) := by rw [e3, b3, upd, if_pos rfl]
 obtain ⟨f1, f2, f3, f4⟩ := e2.rename temp_named cur_named cur_temp.symm htm
 obtain ⟨g1, g2, g3, g4⟩ := f2.syncDir
 refine ⟨(((((d.write (man k) M.v.whole.rec_).1.write kTemp (headB k)).1.syncDir).1.rename kTemp kCur).1.syncDir).1, g2, ?_, ?_, ?_⟩
 ·rw [g3, f3, e3, b3, a3]
 ·rw [g4, f4, e4, b4, a4]
 ·unfold rewrite
  rw [if_neg (by simp [a1]), tmp, if_neg (by rw [hrd]; simp), hd, hnum, if_neg (by simp [b1]), sd1, if_neg (by simp [e1]), ren, if_neg (by simp [f1]), fin, if_neg (by simp [g1])]
end Gw
theorem create_other {d : Sd} {K : List (List UInt8)} {B : Nat} (h : Calm d) (hs0 : Small d K B) (hK : K.length ≤ 30) (hno : ∀ s x, cont d s = some x → St.isOwn s = false) (hB : 2100 ≤ B) (hq : (K.length + 5) * B ≤ d.quota) :
  ∃ d6, St.create d = (d6, some ⟨{ St.first with name := Mw.man 1, count := 1 }, St.kLog1, 0, 0, [], [], [], false⟩, 0) ∧ Calm d6 ∧ d6.quota = d.quota ∧
   cont d6 = upd (upd (upd (upd (upd (cont d) St.kLog1 (some [])) (Mw.man 1) (some (St.first.v.whole.rec_))) Mw.kTemp (some (Mw.headB 1))) Mw.kCur (some (Mw.headB 1))) Mw.kTemp none := by
 have own1 : St.isOwn St.kLog1 = true := by decide +kernel
 have own2 : St.isOwn (Mw.man 1) = true := by decide +kernel
 have own3 : St.isOwn Mw.kTemp = true := by decide +kernel
 have hnone : ∀ s, St.isOwn s = true → cont d s = none := fun s hs => by
  cases hc : cont d s with
  | none => rfl
  | some x => rw [hno s x hc] at hs; cases hs
 have hw := wipe_none d d.list (fun s hs => by
  obtain ⟨x, hx⟩ := h.mem_list.1 hs
  exact hno s x hx)
 obtain ⟨ln, lu⟩ := h.length_names hs0
 obtain ⟨a1, a2, a3, a4⟩ := h.create (s := St.kLog1) (by decide +kernel) (hnone _ own1) (by omega)
 obtain ⟨b1, b2, b3, b4⟩ := a2.sync (s := St.kLog1) (by decide +kernel) (x := []) (by rw [a3, upd, if_pos rfl])
 have hs1 : Small ((d.create St.kLog1).1.sync St.kLog1).1 (St.kLog1 :: K) B := ⟨fun s x hx => by
  rw [b3, a3, upd] at hx
  split at hx
  ·subst_vars; simp
  ·exact List.mem_cons_of_mem _ (hs0.names s x hx), fun s x hx => by
  rw [b3, a3, upd] at hx
  split at hx
  ·injection hx with hx; subst hx; simp
  ·exact hs0.len s x hx⟩
 have ne1 : Mw.kTemp ≠ St.kLog1 := by decide
 have ne2 : Mw.man 1 ≠ St.kLog1 := by decide +kernel
 obtain ⟨d6, c1, c2, c3, c4⟩ := Gw.rewrite_core2 (M := St.first) (by decide +kernel) (k := 1) b2 (by omega) (by omega) hs1 (by rw [List.length_cons]; omega) (by rw [b3, a3, upd, if_neg ne1]; exact hnone _ own3) (by rw [b3, a3, upd, if_neg ne2]; exact hnone _ own2) hB (by rw [b4, a4, List.length_cons]; exact hq)
 have hsw : Mw.sweep (Mw.man 1) d6.list d6 = d6 := Mw.sweep_none _ _ _ (fun s hs hn => by
  obtain ⟨x, hx⟩ := c1.mem_list.1 hs
  rw [c2, b3, a3] at hx
  unfold upd at hx
  split at hx
  ·cases hx
  ·split at hx
   ·rename_i h2
    rw [h2, Mw.number_cur] at hn
    cases hn
   ·split at hx
    ·assumption
    ·split at hx
     ·rename_i h2
      rw [h2, show Mn.number St.kLog1 Mn.kMan = none from by decide +kernel] at hn
      cases hn
     ·rw [(own_number (hno s x hx)).1] at hn
      cases hn)
 refine ⟨d6, ?_, c1, by rw [c3, b4, a4], by rw [c2, b3, a3]; rfl⟩
 unfold St.create
 rw [hw]
 simp only [ne_eq, not_true_eq_false, if_false, a1, b1]
 rw [show Mn.name Mn.kMan 1 = Mw.man 1 from rfl, c4, hsw]
 simp
end
section
open Go
namespace Bd
theorem add_snoc {a : List It} {x : It} (h : ∀ y ∈ a, It.less y x = true ∧ y.k = 2) (hx : x.ok = true) (hk : x.k = 2) : add a x = a ++ [x] := by
 have h1 : hidden a x = false := by
  unfold hidden
  rw [List.any_eq_false]
  intro y hy
  simp [It.hides, (h y hy).2]
 have h2 : beaten a x = false := by
  unfold beaten
  rw [List.any_eq_false]
  intro y hy
  simp [It.same, (h y hy).1]
 have h3 : ∀ y ∈ a, It.less x y = false := fun y hy => by
  have := (h y hy).1
  unfold It.less at this ⊢
  split at this <;> split <;> simp_all <;> omega
 have h4 : put a x = a ++ [x] := by
  unfold put
  rw [List.filter_eq_self.2 (fun y hy => (h y hy).1), List.filter_eq_nil_iff.2 (fun y hy => by rw [h3 y hy]; simp)]
 unfold add
 rw [h1, h2, hx, h4]
 simp only [Bool.not_true, Bool.or_false, Bool.false_eq_true, if_false]
 rw [List.filter_eq_self]
 intro y _
 simp [It.hides, hk]
theorem joins_app : ∀ (b a : List It), (a ++ b).Pairwise (fun x y => It.less x y = true) → (∀ x ∈ a, x.k = 2) → (∀ x ∈ b, x.ok = true ∧ x.k = 2) → joins a b = a ++ b
 | [], a, _, _, _ => by simp [joins]
 | x :: b, a, h, h1, h2 => by
  have e : joins a (x :: b) = joins (add a x) b := rfl
  have hp := List.pairwise_append.1 h
  rw [e, add_snoc (fun y hy => ⟨hp.2.2 y hy x List.mem_cons_self, h1 y hy⟩) (h2 x List.mem_cons_self).1 (h2 x List.mem_cons_self).2]
  rw [joins_app b (a ++ [x]) (by simpa using h) (fun y hy => by
   rcases List.mem_append.1 hy with q | q
   ·exact h1 y q
   ·rw [List.mem_singleton.1 q]
    exact (h2 x List.mem_cons_self).2) (fun y hy => h2 y (List.mem_cons_of_mem _ hy))]
  simp
def it (s i : Nat) : It := ⟨((s + i / 100 : Nat) : Int), 2, i % 100, i + 1, 0⟩
theorem it_ok {s i : Nat} (hs : s + i / 100 ≤ 255) (hi : i ≤ 100000) : (it s i).ok = true := by
 unfold it It.ok
 simp
 omega
theorem it_less {s i j : Nat} (h : i < j) : It.less (it s i) (it s j) = true := by
 unfold it It.less
 simp only
 by_cases h1 : i / 100 = j / 100
 ·rw [if_neg (by rw [h1]; simp), if_neg (by simp)]
  simp
  omega
 ·rw [if_pos (by simp; omega)]
  simp
  omega
theorem it_less2 {s t i j : Nat} (h : s + i / 100 < t + j / 100) : It.less (it s i) (it t j) = true := by
 unfold it It.less
 simp only
 rw [if_pos (by simp; omega)]
 simp
 omega
def l1 (n : Nat) : List It := (List.range n).map (it 0)
def l2 : List It := (List.range 600).map (it 100)
theorem l1_len (n : Nat) : (l1 n).length = n := by simp [l1]
theorem l2_len : l2.length = 600 := by simp [l2]
theorem pw (s n : Nat) : ((List.range n).map (it s)).Pairwise (fun x y => It.less x y = true) := by
 rw [List.pairwise_map]
 exact List.pairwise_lt_range.imp fun h => it_less h
theorem l1_all {n : Nat} (hn : n ≤ 1100) : ∀ x ∈ l1 n, x.ok = true ∧ x.k = 2 := by
 intro x hx
 obtain ⟨i, hi, rfl⟩ := List.mem_map.1 hx
 have := List.mem_range.1 hi
 exact ⟨it_ok (by omega) (by omega), rfl⟩
theorem l2_all : ∀ x ∈ l2, x.ok = true ∧ x.k = 2 := by
 intro x hx
 obtain ⟨i, hi, rfl⟩ := List.mem_map.1 hx
 have := List.mem_range.1 hi
 exact ⟨it_ok (by omega) (by omega), rfl⟩
theorem cross {n : Nat} (hn : n ≤ 1100) : ∀ x ∈ l1 n, ∀ y ∈ l2, It.less x y = true := by
 intro x hx y hy
 obtain ⟨i, hi, rfl⟩ := List.mem_map.1 hx
 obtain ⟨j, hj, rfl⟩ := List.mem_map.1 hy
 have := List.mem_range.1 hi
 exact it_less2 (by omega)
theorem join1 {n : Nat} (hn : n ≤ 1100) : joins [] (l1 n) = l1 n := by
 rw [joins_app (l1 n) [] (by rw [List.nil_append]; exact pw 0 n) (by simp) (l1_all hn)]
 rfl
theorem join2 {n : Nat} (hn : n ≤ 1100) {b c : List It} (e : l2 = b ++ c) : joins (l1 n) b = l1 n ++ b := by
 have hp : l2.Pairwise (fun x y => It.less x y = true) := pw 100 600
 rw [e] at hp
 refine joins_app b (l1 n) (List.pairwise_append.2 ⟨pw 0 n, (List.pairwise_append.1 hp).1, fun x hx y hy => cross hn x hx y (by rw [e]; simp [hy])⟩) (fun x hx => (l1_all hn x hx).2) (fun x hx => l2_all x (by rw [e]; simp [hx]))
theorem join3 {n : Nat} (hn : n ≤ 1100) {b c d : List It} (e : l2 = b ++ (c ++ d)) : joins (l1 n ++ b) c = l1 n ++ (b ++ c) := by
 have hp : l2.Pairwise (fun x y => It.less x y = true) := pw 100 600
 rw [e] at hp
 have h1 : (b ++ c).Pairwise (fun x y => It.less x y = true) := by
  rw [← List.append_assoc] at hp
  exact (List.pairwise_append.1 hp).1
 rw [joins_app c (l1 n ++ b) ?_ (fun x hx => ?_) (fun x hx => l2_all x (by rw [e]; simp [hx])), List.append_assoc]
 ·rw [List.append_assoc]
  exact List.pairwise_append.2 ⟨pw 0 n, h1, fun x hx y hy => cross hn x hx y (by rw [e]; rcases List.mem_append.1 hy with q | q <;> simp [q])⟩
 ·rcases List.mem_append.1 hx with q | q
  ·exact (l1_all hn x q).2
  ·exact (l2_all x (by rw [e]; simp [q])).2
end Bd
end
section
open Go
namespace Bd
structure BS (S : Sd) (V : Sv) (c : Nat) : Prop where
 calm : Calm S
 quota : S.quota = 4194304
 only : V.only = false
 nm : V.nm = St.kLog1
 log : ∃ t, cont S St.kLog1 = some t ∧ t.length ≤ c
 small : Small S [St.kLog1, Mw.man 1, Mw.kCur] 70000
 sz : V.sz ≤ c
 ct : V.ct ≤ c
 mem : V.mem.length ≤ c
def v0 : Sv := ⟨{ St.first with name := Mw.man 1, count := 1 }, St.kLog1, 0, 0, [], [], [], false⟩
theorem born : ∃ S, St.create (Sd.new 4194304) = (S, some v0, 0) ∧ BS S v0 0 := by
 have hc := Calm.new 4194304 (by omega)
 obtain ⟨d6, q1, q2, q3, q4⟩ := create_other (K := []) (B := 2100) hc ⟨fun s x hx => (by rw [Calm.cont_new] at hx; cases hx), fun s x hx => (by rw [Calm.cont_new] at hx; cases hx)⟩ (by simp) (fun s x hx => (by rw [Calm.cont_new] at hx; cases hx)) (Nat.le_refl _) (by simp [Sd.new])
 have n1 : St.kLog1 ≠ Mw.kTemp := by decide
 have n2 : St.kLog1 ≠ Mw.kCur := by decide
 have n3 : St.kLog1 ≠ Mw.man 1 := by decide +kernel
 have hl1 : St.first.v.whole.rec_.length ≤ 70000 := by decide +kernel
 have hl2 : (Mw.headB 1).length ≤ 70000 := by decide +kernel
 refine ⟨d6, q1, q2, by rw [q3]; rfl, rfl, rfl, ⟨[], ?_, Nat.zero_le _⟩, ⟨fun s x hx => ?_, fun s x hx => ?_⟩, Nat.zero_le _, Nat.zero_le _, Nat.zero_le _⟩
 ·rw [q4]
  unfold upd
  rw [if_neg n1, if_neg n2, if_neg n1, if_neg n3, if_pos rfl]
 all_goals
  rw [q4, Calm.cont_new] at hx
  unfold upd at hx
  split at hx
  ·cases hx
  ·split at hx
   ·injection hx with hx
    subst_vars
    first | simp | exact hl2
   ·split at hx
    ·injection hx with hx
     subst_vars
     first | simp | exact hl1
    ·split at hx
     ·injection hx with hx
      subst_vars
      simp
     ·cases hx
theorem BS.apply {S : Sd} {V : Sv} {c : Nat} (h : BS S V c) (hc : c + 32100 ≤ 70000) {l : List It} (h0 : l ≠ []) (ha : l.all It.ok = true) (hl : l.length ≤ 1000) (hj : (joins V.st l).length ≤ 1500) :
  ∃ S' V', St.apply S V l = (S', V', 0) ∧ BS S' V' (c + 32100) ∧ V'.st = joins V.st l := by
 have hb : (Lg.batch l).length ≤ 32100 := by
  have := It.bytes_len l
  unfold Lg.batch
  rw [Fr.put_length]
  omega
 obtain ⟨t, ht, hc0⟩ := h.log
 obtain ⟨ln, lu⟩ := h.calm.length_names h.small
 obtain ⟨a1, a2, a3, a4⟩ := h.calm.append (s := St.kLog1) (by decide +kernel) ht (Lg.batch l) (by omega) (by rw [h.quota]; simp at lu; omega)
 refine ⟨_, { V with sz := V.sz + (Lg.batch l).length, ct := V.ct + 1, mem := l.foldl wput V.mem, st := joins V.st l }, ?_, ⟨a2, by rw [a4, h.quota], ?_, ?_, ⟨t ++ Lg.batch l, ?_, ?_⟩, ⟨fun s x hx => ?_, fun s x hx => ?_⟩, ?_, ?_, ?_⟩, ?_⟩
 ·unfold St.apply
  rw [if_neg (by rw [h.only]; simp), if_neg (by simp [h0, ha]), if_neg (by omega), if_neg (by omega), h.nm]
  simp only [a1]
  simp
 ·exact h.only
 ·exact h.nm
 ·rw [a3, upd, if_pos rfl]
 ·rw [List.length_append]
  omega
 ·rw [a3, upd] at hx
  split at hx
  ·subst_vars; simp
  ·exact h.small.names s x hx
 ·rw [a3, upd] at hx
  split at hx
  ·injection hx with hx
   rw [← hx, List.length_append]
   omega
  ·exact h.small.len s x hx
 ·have := h.sz
  simp only
  omega
 ·have := h.ct
  simp only
  omega
 ·have := wputs_len l V.mem
  have := h.mem
  simp only
  omega
 ·rfl
theorem BS.bad {S : Sd} {V : Sv} {c : Nat} (h : BS S V c) {l : List It} (ha : l = [] ∨ l.all It.ok = false) : St.apply S V l = (S, V, 1) := by
 unfold St.apply
 rw [if_neg (by rw [h.only]; simp), if_pos ha]
theorem BS.long {S : Sd} {V : Sv} {c : Nat} (h : BS S V c) {l : List It} (h0 : l ≠ []) (ha : l.all It.ok = true) (hl : 1000 < l.length ∨ 1500 < (joins V.st l).length) : St.apply S V l = (S, V, 2) := by
 unfold St.apply
 rw [if_neg (by rw [h.only]; simp), if_neg (by simp [h0, ha])]
 by_cases h1 : 1000 < l.length
 ·rw [if_pos h1]
 ·rw [if_neg h1, if_pos (by omega)]
end Bd
end
end Go.Proofs.YtdkjoigpahafmaaGreatDoor
