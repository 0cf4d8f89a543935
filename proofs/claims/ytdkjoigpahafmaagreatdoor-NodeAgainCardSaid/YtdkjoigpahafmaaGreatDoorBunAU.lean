/- Texts NodN, NodQ, NodO in one. No conditions. -/
import Derived.Test.YtdkjoigpahafmaaGreatDoorBunAA
import Derived.Test.YtdkjoigpahafmaaGreatDoorBunAT
import Derived.Test.YtdkjoigpahafmaaGreatDoorBunAQ
import Derived.Test.YtdkjoigpahafmaaGreatDoorBunAR

set_option linter.unusedSimpArgs false
set_option linter.unusedVariables false
set_option maxRecDepth 100000
set_option maxHeartbeats 16000000
namespace Go.Proofs.YtdkjoigpahafmaaGreatDoor
section
open Go Go.RowKit Go.Lib Go.Shelf
set_option linter.unusedSimpArgs false
variable {w w1 w2 : World} {X X1 X2 : Dw} {S S1 S2 : Sd} {Y Y1 Y2 : Yw} {V V1 V2 : Sv} {nb now grace : Nat} {ni : Int}
theorem named_ {α : Type} {Q : α → Prop} {a : α} (h : Q a) : ∃ b, b = a ∧ Q b := ⟨a, rfl, h⟩
theorem box_od {b : Nat} {cs : Array Value} {e : TypeId} (_ : Below b w1 (w.alloc (.cells cs e)).drew) : BoxO (w.alloc (.cells cs e)).drew e w.heap.size cs.toList := BoxO.new _ _ _
theorem box_of {b : Nat} {cs : Array Value} {e : TypeId} (_ : Below b w1 (w.alloc (.cells cs e))) : BoxO (w.alloc (.cells cs e)) e w.heap.size cs.toList := BoxO.new _ _ _
def St.even (S : Sd) (V : Sv) (f now : Nat) : Sd × Sv := if f ≤ V.M.v.cert ∨ V.M.v.floor < f then (S, V) else ((St.setMeta S V { St.meta_ V with cert := f, at_ := now }).1, (St.setMeta S V { St.meta_ V with cert := f, at_ := now }).2.1)
theorem hev_any (h : NdAt w X S Y V nb ni now grace) (hN : Nrm V) (frm : Int) (mi no : Nat) (A : Option Addr) (n c : Nat) (l : List It) (hok : Mq.ok ⟨10, frm, ni, mi, no, A, n, c⟩ l = true) (hn : n ≤ 1000) (hr : Row w.heap.size w A n 5 (itc l)) (hnow : now ≤ 281474976710656 ∧ (now = 0 → V.M.v.at_ = 0)) (hmc : V.M.v.floor ≤ 281474976710656 ∧ V.M.v.lease ≤ 281474976710656) :
  Calls Tryz.prog 16 #[.pointer (some ⟨nb, 0, none⟩), .agg #[.int .i64 10, .int .i64 frm, .int .i64 ni, .int .u64 (mi : Int), .int .u64 (no : Int), .slice A n c]] w (HPost X Y w (St.even S V no now).1 (St.even S V no now).2 nb ni now grace frm mi none) := by
 obtain ⟨R, hR⟩ : ∃ R, R = St.even S V no now := ⟨_, rfl⟩
 rw [← hR]
 unfold St.even at hR
 have HR := Lib.hid hR
 clear hR
 have hb1 := (Below.refl w.heap.size w).alloc (Nat.le_refl _) (.cells #[.pointer (some ⟨nb, 0, none⟩)] 42)
 have hb2 := hb1.alloc (by simp) (.cells #[.int .i64 10, .int .i64 frm, .int .i64 ni, .int .u64 (mi : Int), .int .u64 (no : Int), .slice A n c] 47)
 have hx0 := (BoxO.new w #[.pointer (some ⟨nb, 0, none⟩)] 42).alloc (.cells #[.int .i64 10, .int .i64 frm, .int .i64 ni, .int .u64 (mi : Int), .int .u64 (no : Int), .slice A n c] 47)
 have hx1 := BoxO.new (w.alloc (.cells #[.pointer (some ⟨nb, 0, none⟩)] 42)) #[.int .i64 10, .int .i64 frm, .int .i64 ni, .int .u64 (mi : Int), .int .u64 (no : Int), .slice A n c] 47
 rw [World.size_alloc] at hx1
 have h2 := h.below hb2
 have hmf : ∀ (fn : Fn) (first cap : Array Value) (w : World), (Instr.makeFunc fn first cap).run Tryz.prog w = .ok (.func fn first cap) w := fun _ _ _ _ => rfl
 obtain ⟨W, hW⟩ : ∃ W, W = (w.alloc (.cells #[.pointer (some ⟨nb, 0, none⟩)] 42)).alloc (.cells #[.int .i64 10, .int .i64 frm, .int .i64 ni, .int .u64 (mi : Int), .int .u64 (no : Int), .slice A n c] 47) := ⟨_, rfl⟩
 obtain ⟨g0, hg0⟩ : ∃ g0, g0 = w.heap.size := ⟨_, rfl⟩
 rw [← hW] at hb2 hx0 hx1 h2
 rw [← hg0] at hx0 hx1
 have hmo := fun W' (hb : Below W.heap.size W W') => mok_any ⟨10, frm, ni, mi, no, A, n, c⟩ l W' (by simp only; omega) ((((hr.below hb2).up hb2.size).below hb).up hb.size)
 simp only [hok] at hmo
 unfold Mq.val at hmo
 simp only at hmo
 have HMO := Lib.hid hmo
 have H2 := Lib.hid h2
 have HX := Lib.hid (And.intro hx0 hx1)
 have HB := Lib.hid hb2
 have HW := Lib.hid (And.intro hW hg0)
 have HROW := Lib.hid ((hr.below hb2).up hb2.size)
 have HL := Lib.hid (And.intro h.at_.lt (And.intro h.box.lt h.at_.dm.env.base))
 have HK := Lib.hid (fun W' (hb : Below W.heap.size W W') => And.intro (hx0.below hb) (And.intro (hx1.below hb) (h2.below hb)))
 have HH := Lib.hid h
 have HNOW := Lib.hid (And.intro hnow hmc)
 clear hnow hmc
 clear hmo h2 hx0 hx1 hb1 hb2 hW hg0 hr h hok
 go_enter Tryz.func16, Tryz.ntmps16
 go_wp2_with fail
 rw [← HW.out.1, ← HW.out.2]
 refine wp_region_held_drew (S := fun w' => Below W.heap.size W w') rfl (below_drew (Below.refl _ _)) (fun hSw => ?_)
 refine wpT (i := 0) (v := ?vhev0) ?hhev0 hSw ?khev0
 case hhev0 => (intro w hSw; (obtain ⟨x, y, z⟩ := HK.out _ hSw; have x0 := x.cell 0; have y0 := y.cell 0; have y1 := y.cell 1; have y2 := y.cell 2; have y3 := y.cell 3; have y4 := y.cell 4; have y5 := y.cell 5; have z0 := z.box.cell 0; simp only [gE0, gE1] at x0 y0 y1 y2 y3 y4 y5 z0; clear x y z); go_simp; try (with_reducible rfl))
 go_simp
 refine wpAnyH_ready (rs := [1]) (by kernel_rfl) (by simp) ?_
 refine AllReadyH.cons rfl (fun K hK => ?_) AllReadyH.nil
 go_simp
 with_reducible refine (HMO.out _ hSw).mono ?_
 rintro e w3 ⟨rfl, hb3⟩
 go_simp
 refine hK.out _ _ (later_ hSw hb3) (fun hSn => ?_)
 clear hK K hSw
 have hSw := hSn
 clear hSn
 go_simp
 refine wpT (i := 2) (v := ?vhev2) ?hhev2 hSw ?khev2
 case hhev2 => (intro w hSw; (obtain ⟨x, y, z⟩ := HK.out _ hSw; have x0 := x.cell 0; have y0 := y.cell 0; have y1 := y.cell 1; have y2 := y.cell 2; have y3 := y.cell 3; have y4 := y.cell 4; have y5 := y.cell 5; have z0 := z.box.cell 0; simp only [gE0, gE1] at x0 y0 y1 y2 y3 y4 y5 z0; clear x y z); go_simp; try (with_reducible rfl))
 go_simp
 refine wpT (i := 3) (v := ?vhev3) ?hhev3 hSw ?khev3
 case hhev3 => (intro w hSw; (obtain ⟨x, y, z⟩ := HK.out _ hSw; have x0 := x.cell 0; have y0 := y.cell 0; have y1 := y.cell 1; have y2 := y.cell 2; have y3 := y.cell 3; have y4 := y.cell 4; have y5 := y.cell 5; have z0 := z.box.cell 0; simp only [gE0, gE1] at x0 y0 y1 y2 y3 y4 y5 z0; clear x y z); go_simp; try (with_reducible rfl))
 go_simp
 refine wpT (i := 4) (v := ?vhev4) ?hhev4 hSw ?khev4
 case hhev4 => (intro w hSw; (obtain ⟨x, y, z⟩ := HK.out _ hSw; have x0 := x.cell 0; have y0 := y.cell 0; have y1 := y.cell 1; have y2 := y.cell 2; have y3 := y.cell 3; have y4 := y.cell 4; have y5 := y.cell 5; have z0 := z.box.cell 0; simp only [gE0, gE1] at x0 y0 y1 y2 y3 y4 y5 z0; clear x y z); go_simp; try (with_reducible rfl))
 go_simp
 refine wpT (i := 5) (v := ?vhev5) ?hhev5 hSw ?khev5
 case hhev5 => (intro w hSw; (obtain ⟨x, y, z⟩ := HK.out _ hSw; have x0 := x.cell 0; have y0 := y.cell 0; have y1 := y.cell 1; have y2 := y.cell 2; have y3 := y.cell 3; have y4 := y.cell 4; have y5 := y.cell 5; have z0 := z.box.cell 0; simp only [gE0, gE1] at x0 y0 y1 y2 y3 y4 y5 z0; clear x y z); go_simp; try (with_reducible rfl))
 go_simp
 refine wpT (i := 6) (v := ?vhev6) ?hhev6 hSw ?khev6
 case hhev6 => (intro w hSw; (obtain ⟨x, y, z⟩ := HK.out _ hSw; have x0 := x.cell 0; have y0 := y.cell 0; have y1 := y.cell 1; have y2 := y.cell 2; have y3 := y.cell 3; have y4 := y.cell 4; have y5 := y.cell 5; have z0 := z.box.cell 0; simp only [gE0, gE1] at x0 y0 y1 y2 y3 y4 y5 z0; clear x y z); go_simp; try (with_reducible rfl))
 go_simp
 refine wpT (i := 7) (v := ?vhev7) ?hhev7 hSw ?khev7
 case hhev7 => (intro w hSw; (obtain ⟨x, y, z⟩ := HK.out _ hSw; have x0 := x.cell 0; have y0 := y.cell 0; have y1 := y.cell 1; have y2 := y.cell 2; have y3 := y.cell 3; have y4 := y.cell 4; have y5 := y.cell 5; have z0 := z.box.cell 0; simp only [gE0, gE1] at x0 y0 y1 y2 y3 y4 y5 z0; clear x y z); go_simp; try (with_reducible rfl))
 go_simp
 refine wpT (i := 8) (v := ?vhev8) ?hhev8 hSw ?khev8
 case hhev8 => (intro w hSw; (obtain ⟨x, y, z⟩ := HK.out _ hSw; have x0 := x.cell 0; have y0 := y.cell 0; have y1 := y.cell 1; have y2 := y.cell 2; have y3 := y.cell 3; have y4 := y.cell 4; have y5 := y.cell 5; have z0 := z.box.cell 0; simp only [gE0, gE1] at x0 y0 y1 y2 y3 y4 y5 z0; clear x y z); go_simp; try (with_reducible rfl))
 go_simp
 refine wpT (i := 9) (v := ?vhev9) ?hhev9 hSw ?khev9
 case hhev9 => (intro w hSw; (obtain ⟨x, y, z⟩ := HK.out _ hSw; have x0 := x.cell 0; have y0 := y.cell 0; have y1 := y.cell 1; have y2 := y.cell 2; have y3 := y.cell 3; have y4 := y.cell 4; have y5 := y.cell 5; have z0 := z.box.cell 0; simp only [gE0, gE1] at x0 y0 y1 y2 y3 y4 y5 z0; clear x y z); go_simp; try (with_reducible rfl))
 go_simp
 refine wpT (i := 10) (v := ?vhev10) ?hhev10 hSw ?khev10
 case hhev10 => (intro w hSw; (obtain ⟨x, y, z⟩ := HK.out _ hSw; have x0 := x.cell 0; have y0 := y.cell 0; have y1 := y.cell 1; have y2 := y.cell 2; have y3 := y.cell 3; have y4 := y.cell 4; have y5 := y.cell 5; have z0 := z.box.cell 0; simp only [gE0, gE1] at x0 y0 y1 y2 y3 y4 y5 z0; clear x y z); go_simp; try (with_reducible rfl))
 go_simp
 refine wpT (i := 11) (v := ?vhev11) ?hhev11 hSw ?khev11
 case hhev11 => (intro w hSw; (obtain ⟨x, y, z⟩ := HK.out _ hSw; have x0 := x.cell 0; have y0 := y.cell 0; have y1 := y.cell 1; have y2 := y.cell 2; have y3 := y.cell 3; have y4 := y.cell 4; have y5 := y.cell 5; have z0 := z.box.cell 0; simp only [gE0, gE1] at x0 y0 y1 y2 y3 y4 y5 z0; clear x y z); go_simp; try (with_reducible rfl))
 go_simp
 refine wpAnyH_done (by kernel_rfl) ?_ _
 have hb4 := later_ (below_drew (Below.refl W.heap.size W)) hb3
 clear hSw hb3 HMO
 obtain ⟨x, y, z⟩ := HK.out _ hb4
 have x0 := x.cell 0
 have z1 := z.box.cell 1
 simp only [gE0, gE1] at x0 z1
 have HME := Lib.hid (smeta_any z.at_ (by have := hN.files; omega))
 have HB4 := Lib.hid hb4
 clear x y z hb4
 go_wp2_with fail
 with_reducible refine HME.out.mono ?_
 rintro e w4 ⟨rfl, hb5⟩
 obtain ⟨mt, hmt⟩ : ∃ mt, mt = St.meta_ V := ⟨_, rfl⟩
 have HB5 := Lib.hid (later_ HB4.out hb5)
 have hb6 := later_ HB5.out ((Below.refl w4.heap.size w4).alloc (Nat.le_refl _) (.cells #[.int .u64 (mt.floor : Int), .int .u64 (mt.cert : Int), .int .u64 (mt.at_ : Int), .int .u64 (mt.lease : Int)] 32))
 have HX6 := Lib.hid (BoxO.new w4 #[.int .u64 (mt.floor : Int), .int .u64 (mt.cert : Int), .int .u64 (mt.at_ : Int), .int .u64 (mt.lease : Int)] 32)
 have HB6 := Lib.hid hb6
 rw [← hmt]
 unfold Mt.val
 have HMT := Lib.hid hmt
 clear hmt hb5 HME x0 z1 hb6
 obtain ⟨x, y, z⟩ := HK.out _ HB6.out
 have x0 := x.cell 0
 have y0 := y.cell 0
 have y1 := y.cell 1
 have y3 := y.cell 3
 have y4 := y.cell 4
 have y5 := y.cell 5
 have z0 := z.box.cell 0
 have z1 := z.box.cell 1
 simp only [gE0, gE1] at x0 y0 y1 y3 y4 y5 z0 z1
 clear x y z
 obtain ⟨W6, hW6⟩ : ∃ W6, W6 = w4.alloc (.cells #[.int .u64 (mt.floor : Int), .int .u64 (mt.cert : Int), .int .u64 (mt.at_ : Int), .int .u64 (mt.lease : Int)] 32) := ⟨_, rfl⟩
 have HB7 : Hid (Below W.heap.size W W6) := Lib.hid (by rw [hW6]; exact HB6.out)
 have HX7 : Hid (BoxO W6 32 w4.heap.size [.int .u64 (mt.floor : Int), .int .u64 (mt.cert : Int), .int .u64 (mt.at_ : Int), .int .u64 (mt.lease : Int)]) := Lib.hid (by rw [hW6]; exact HX6.out)
 have HW6 := Lib.hid hW6
 have hsl := fun W' (_ : Below W6.heap.size W6 W') => feven_any mt no now W' HNOW.out.1.1
 unfold Mt.val at hsl
 simp only at hsl
 have HSL := Lib.hid hsl
 clear hsl hW6
 have hR := HR.out
 rw [show V.M.v.floor = mt.floor by rw [HMT.out]; rfl, show V.M.v.cert = mt.cert by rw [HMT.out]; rfl] at hR
 have HR1 := Lib.hid hR
 clear hR HR
 by_cases hlt : no ≤ mt.cert ∨ mt.floor < no
 ·have hsl := HSL.out
  rw [if_pos hlt] at hsl
  have HS2 := Lib.hid hsl
  have hR := HR1.out
  rw [if_pos hlt] at hR
  have HR2 := Lib.hid hR
  have HZ : Hid (∀ w', Below W6.heap.size W6 w' → HPost X Y w R.1 R.2 nb ni now grace frm mi none (.returned (.slice none 0 0)) w') := Lib.hid (fun w' hb => by
   rw [HR2.out]
   exact ((NdUpd.same HH.out (HB.out.trans ((later_ HB7.out hb).mono HB.out.size))).mute (w := w) (Below.refl _ _)))
  clear hsl HSL hlt hR HR1
  go_wp2_with fail
  rw [← HW6.out]
  refine wp_region_held_drew (S := fun w' => Below W6.heap.size W6 w') rfl (below_drew (Below.refl _ _)) (fun hSw => ?_)
  refine wpT (i := 0) (v := ?vhea0) ?hhea0 hSw ?khea0
  case hhea0 => (intro w hSw; (obtain ⟨x, y, z⟩ := HK.out _ (later_ HB7.out hSw); have hm := HX7.out.below hSw; have x0 := x.cell 0; have y4 := y.cell 4; have z2 := z.box.cell 2; have m0 := hm.cell 0; have m1 := hm.cell 1; have m2 := hm.cell 2; have m3 := hm.cell 3; simp only [gE0, gE1] at x0 y4 z2 m0 m1 m2 m3; clear x y z hm); go_simp; try (with_reducible rfl))
  go_simp
  refine wpT (i := 1) (v := ?vhea1) ?hhea1 hSw ?khea1
  case hhea1 => (intro w hSw; (obtain ⟨x, y, z⟩ := HK.out _ (later_ HB7.out hSw); have hm := HX7.out.below hSw; have x0 := x.cell 0; have y4 := y.cell 4; have z2 := z.box.cell 2; have m0 := hm.cell 0; have m1 := hm.cell 1; have m2 := hm.cell 2; have m3 := hm.cell 3; simp only [gE0, gE1] at x0 y4 z2 m0 m1 m2 m3; clear x y z hm); go_simp; try (with_reducible rfl))
  go_simp
  refine wpT (i := 2) (v := ?vhea2) ?hhea2 hSw ?khea2
  case hhea2 => (intro w hSw; (obtain ⟨x, y, z⟩ := HK.out _ (later_ HB7.out hSw); have hm := HX7.out.below hSw; have x0 := x.cell 0; have y4 := y.cell 4; have z2 := z.box.cell 2; have m0 := hm.cell 0; have m1 := hm.cell 1; have m2 := hm.cell 2; have m3 := hm.cell 3; simp only [gE0, gE1] at x0 y4 z2 m0 m1 m2 m3; clear x y z hm); go_simp; try (with_reducible rfl))
  go_simp
  refine wpT (i := 3) (v := ?vhea3) ?hhea3 hSw ?khea3
  case hhea3 => (intro w hSw; (obtain ⟨x, y, z⟩ := HK.out _ (later_ HB7.out hSw); have hm := HX7.out.below hSw; have x0 := x.cell 0; have y4 := y.cell 4; have z2 := z.box.cell 2; have m0 := hm.cell 0; have m1 := hm.cell 1; have m2 := hm.cell 2; have m3 := hm.cell 3; simp only [gE0, gE1] at x0 y4 z2 m0 m1 m2 m3; clear x y z hm); go_simp; try (with_reducible rfl))
  go_simp
  refine wpT (i := 4) (v := ?vhea4) ?hhea4 hSw ?khea4
  case hhea4 => (intro w hSw; (obtain ⟨x, y, z⟩ := HK.out _ (later_ HB7.out hSw); have hm := HX7.out.below hSw; have x0 := x.cell 0; have y4 := y.cell 4; have z2 := z.box.cell 2; have m0 := hm.cell 0; have m1 := hm.cell 1; have m2 := hm.cell 2; have m3 := hm.cell 3; simp only [gE0, gE1] at x0 y4 z2 m0 m1 m2 m3; clear x y z hm); go_simp; try (with_reducible rfl))
  go_simp
  refine wpT (i := 5) (v := ?vhea5) ?hhea5 hSw ?khea5
  case hhea5 => (intro w hSw; (obtain ⟨x, y, z⟩ := HK.out _ (later_ HB7.out hSw); have hm := HX7.out.below hSw; have x0 := x.cell 0; have y4 := y.cell 4; have z2 := z.box.cell 2; have m0 := hm.cell 0; have m1 := hm.cell 1; have m2 := hm.cell 2; have m3 := hm.cell 3; simp only [gE0, gE1] at x0 y4 z2 m0 m1 m2 m3; clear x y z hm); go_simp; try (with_reducible rfl))
  go_simp
  refine wpT (i := 6) (v := ?vhea6) ?hhea6 hSw ?khea6
  case hhea6 => (intro w hSw; (obtain ⟨x, y, z⟩ := HK.out _ (later_ HB7.out hSw); have hm := HX7.out.below hSw; have x0 := x.cell 0; have y4 := y.cell 4; have z2 := z.box.cell 2; have m0 := hm.cell 0; have m1 := hm.cell 1; have m2 := hm.cell 2; have m3 := hm.cell 3; simp only [gE0, gE1] at x0 y4 z2 m0 m1 m2 m3; clear x y z hm); go_simp; try (with_reducible rfl))
  go_simp
  refine wpAnyH_ready (rs := [7, 11]) (by kernel_rfl) (by simp) ?_
  refine AllReadyH.cons rfl (fun K hK => ?_) (AllReadyH.cons rfl (fun K hK => ?_) AllReadyH.nil)
  ·go_simp
   with_reducible refine (HS2.out _ hSw).mono ?_
   rintro e w7 ⟨rfl, hb7⟩
   go_simp
   refine hK.out _ _ (later_ hSw hb7) (fun hSn => ?_)
   clear hK K hSw
   have hSw := hSn
   clear hSn
   go_simp
   (have hs7 := hSw; first | have hbx := hbx.below hb7 | skip); (refine wpT (i := 8) (v := ?_) ?_ hSw ?_; rotate_left; (focus (intro w hSw; (obtain ⟨x, y, z⟩ := HK.out _ (later_ HB7.out hSw); have hm := HX7.out.below hSw; have x0 := x.cell 0; have y4 := y.cell 4; have z2 := z.box.cell 2; have m0 := hm.cell 0; have m1 := hm.cell 1; have m2 := hm.cell 2; have m3 := hm.cell 3; simp only [gE0, gE1] at x0 y4 z2 m0 m1 m2 m3; clear x y z hm); go_simp; try (with_reducible rfl))); go_simp); (refine wpT (i := 9) (v := ?_) ?_ hSw ?_; rotate_left; (focus (intro w hSw; (obtain ⟨x, y, z⟩ := HK.out _ (later_ HB7.out hSw); have hm := HX7.out.below hSw; have x0 := x.cell 0; have y4 := y.cell 4; have z2 := z.box.cell 2; have m0 := hm.cell 0; have m1 := hm.cell 1; have m2 := hm.cell 2; have m3 := hm.cell 3; simp only [gE0, gE1] at x0 y4 z2 m0 m1 m2 m3; clear x y z hm); go_simp; try (with_reducible rfl))); go_simp); (refine wpT (i := 10) (v := ?_) ?_ hSw ?_; rotate_left; (focus (intro w hSw; (obtain ⟨x, y, z⟩ := HK.out _ (later_ HB7.out hSw); have hm := HX7.out.below hSw; have x0 := x.cell 0; have y4 := y.cell 4; have z2 := z.box.cell 2; have m0 := hm.cell 0; have m1 := hm.cell 1; have m2 := hm.cell 2; have m3 := hm.cell 3; simp only [gE0, gE1] at x0 y4 z2 m0 m1 m2 m3; clear x y z hm); go_simp; try (with_reducible rfl))); go_simp)
   refine wpAnyH_ready (rs := [11]) (by kernel_rfl) (by simp) ?_
   refine AllReadyH.cons rfl (fun K hK => ?_) AllReadyH.nil
   ·have hge := hSw.size
    go_simp
    refine hK.out _ _ (hSw.alloc hSw.size _) (fun hSn => ?_)
    clear hK K hSw
    have hSw := hSn
    clear hSn
    go_simp
    first | have hbx := box_of hSw | have hbx := box_od hSw
    refine wpAnyH_ready (rs := [12]) (by kernel_rfl) (by simp) ?_
    refine AllReadyH.cons rfl (fun K hK => ?_) AllReadyH.nil
    (have f0 := hbx.free 0; have f1 := hbx.free 1; have f2 := hbx.free 2; have f3 := hbx.free 3; have p0 := hbx.cell 0; have p1 := hbx.cell 1; have p2 := hbx.cell 2; have p3 := hbx.cell 3; simp only [gE0, gE1] at p0 p1 p2 p3)
    go_simp
    refine hK.out _ _ (by with_reducible first | exact hs7.alloc hge _ | exact (((hSw.setCell hge _).setCell hge _).setCell hge _).setCell hge _) (fun hSn => ?_)
    clear hK K hSw
    have hSw := hSn
    clear hSn
    go_simp
    refine wpT (i := 13) (v := ?vheaaa13) ?hheaaa13 hSw ?kheaaa13
    case hheaaa13 => (intro w hSw; (obtain ⟨x, y, z⟩ := HK.out _ (later_ HB7.out hSw); have hm := HX7.out.below hSw; have x0 := x.cell 0; have y4 := y.cell 4; have z2 := z.box.cell 2; have m0 := hm.cell 0; have m1 := hm.cell 1; have m2 := hm.cell 2; have m3 := hm.cell 3; simp only [gE0, gE1] at x0 y4 z2 m0 m1 m2 m3; clear x y z hm); go_simp; try (with_reducible rfl))
    go_simp
    refine wpAnyH_done (by kernel_rfl) ?_ _
    have HY := Lib.hid (HZ.out _ hSw)
    clear hSw hbx hge hb7 hs7 HS2 HZ
    go_wp2
    go_ret
    exact HY.out
  ·have hge := hSw.size
   go_simp
   refine hK.out _ _ (hSw.alloc hSw.size _) (fun hSn => ?_)
   clear hK K hSw
   have hSw := hSn
   clear hSn
   go_simp
   first | have hbx := box_of hSw | have hbx := box_od hSw
   refine wpAnyH_ready (rs := [7]) (by kernel_rfl) (by simp) ?_
   refine AllReadyH.cons rfl (fun K hK => ?_) AllReadyH.nil
   ·go_simp
    with_reducible refine (HS2.out _ hSw).mono ?_
    rintro e w7 ⟨rfl, hb7⟩
    go_simp
    refine hK.out _ _ (later_ hSw hb7) (fun hSn => ?_)
    clear hK K hSw
    have hSw := hSn
    clear hSn
    go_simp
    (have hs7 := hSw; first | have hbx := hbx.below hb7 | skip); (refine wpT (i := 8) (v := ?_) ?_ hSw ?_; rotate_left; (focus (intro w hSw; (obtain ⟨x, y, z⟩ := HK.out _ (later_ HB7.out hSw); have hm := HX7.out.below hSw; have x0 := x.cell 0; have y4 := y.cell 4; have z2 := z.box.cell 2; have m0 := hm.cell 0; have m1 := hm.cell 1; have m2 := hm.cell 2; have m3 := hm.cell 3; simp only [gE0, gE1] at x0 y4 z2 m0 m1 m2 m3; clear x y z hm); go_simp; try (with_reducible rfl))); go_simp); (refine wpT (i := 9) (v := ?_) ?_ hSw ?_; rotate_left; (focus (intro w hSw; (obtain ⟨x, y, z⟩ := HK.out _ (later_ HB7.out hSw); have hm := HX7.out.below hSw; have x0 := x.cell 0; have y4 := y.cell 4; have z2 := z.box.cell 2; have m0 := hm.cell 0; have m1 := hm.cell 1; have m2 := hm.cell 2; have m3 := hm.cell 3; simp only [gE0, gE1] at x0 y4 z2 m0 m1 m2 m3; clear x y z hm); go_simp; try (with_reducible rfl))); go_simp); (refine wpT (i := 10) (v := ?_) ?_ hSw ?_; rotate_left; (focus (intro w hSw; (obtain ⟨x, y, z⟩ := HK.out _ (later_ HB7.out hSw); have hm := HX7.out.below hSw; have x0 := x.cell 0; have y4 := y.cell 4; have z2 := z.box.cell 2; have m0 := hm.cell 0; have m1 := hm.cell 1; have m2 := hm.cell 2; have m3 := hm.cell 3; simp only [gE0, gE1] at x0 y4 z2 m0 m1 m2 m3; clear x y z hm); go_simp; try (with_reducible rfl))); go_simp)
    refine wpAnyH_ready (rs := [12]) (by kernel_rfl) (by simp) ?_
    refine AllReadyH.cons rfl (fun K hK => ?_) AllReadyH.nil
    (have f0 := hbx.free 0; have f1 := hbx.free 1; have f2 := hbx.free 2; have f3 := hbx.free 3; have p0 := hbx.cell 0; have p1 := hbx.cell 1; have p2 := hbx.cell 2; have p3 := hbx.cell 3; simp only [gE0, gE1] at p0 p1 p2 p3)
    go_simp
    refine hK.out _ _ (by with_reducible first | exact hs7.alloc hge _ | exact (((hSw.setCell hge _).setCell hge _).setCell hge _).setCell hge _) (fun hSn => ?_)
    clear hK K hSw
    have hSw := hSn
    clear hSn
    go_simp
    refine wpT (i := 13) (v := ?vheaba13) ?hheaba13 hSw ?kheaba13
    case hheaba13 => (intro w hSw; (obtain ⟨x, y, z⟩ := HK.out _ (later_ HB7.out hSw); have hm := HX7.out.below hSw; have x0 := x.cell 0; have y4 := y.cell 4; have z2 := z.box.cell 2; have m0 := hm.cell 0; have m1 := hm.cell 1; have m2 := hm.cell 2; have m3 := hm.cell 3; simp only [gE0, gE1] at x0 y4 z2 m0 m1 m2 m3; clear x y z hm); go_simp; try (with_reducible rfl))
    go_simp
    refine wpAnyH_done (by kernel_rfl) ?_ _
    have HY := Lib.hid (HZ.out _ hSw)
    clear hSw hbx hge hb7 hs7 HS2 HZ
    go_wp2
    go_ret
    exact HY.out
 ·have hsl := HSL.out
  rw [if_neg hlt] at hsl
  have HS2 := Lib.hid hsl
  have hR := HR1.out
  rw [if_neg hlt] at hR
  have hmm : St.mayMeta { St.meta_ V with cert := no, at_ := now } (St.meta_ V) := by
   obtain ⟨⟨q1, q2⟩, q3, q4⟩ := HNOW.out
   have ef : mt.floor = V.M.v.floor := by rw [HMT.out]; rfl
   exact ⟨⟨q3, fun e => e⟩, ⟨by show no ≤ _; omega, fun e => by have e2 : no = 0 := e; omega⟩, ⟨q1, q2⟩, ⟨q4, fun e => e⟩⟩
  have ee : ({ St.meta_ V with cert := no, at_ := now } : Mt) = { mt with cert := no, at_ := now } := by rw [HMT.out]
  rw [ee] at hR hmm
  obtain ⟨r, hr⟩ : ∃ r, r = St.setMeta S V { mt with cert := no, at_ := now } := ⟨_, rfl⟩
  have hvs := fun W' (hb : Below W6.heap.size W6 W') => ssetmeta_any (HK.out _ (later_ HB7.out hb)).2.2.at_ { mt with cert := no, at_ := now } hmm hN.files (by have := hN.count; omega) hN.name
  rw [← hr] at hvs hR
  obtain ⟨S1, V1, er⟩ := r
  unfold SvPostA Mt.val at hvs
  simp only at hvs hR
  have HVS := Lib.hid hvs
  have HR3 := Lib.hid hR
  clear hsl HSL hlt hR HR1 hmm ee hvs hr
  go_wp2_with fail
  rw [← HW6.out]
  refine wp_region_held_drew (S := fun w' => Below W6.heap.size W6 w') rfl (below_drew (Below.refl _ _)) (fun hSw => ?_)
  refine wpT (i := 0) (v := ?vheb0) ?hheb0 hSw ?kheb0
  case hheb0 => (intro w hSw; (obtain ⟨x, y, z⟩ := HK.out _ (later_ HB7.out hSw); have hm := HX7.out.below hSw; have x0 := x.cell 0; have y4 := y.cell 4; have z2 := z.box.cell 2; have m0 := hm.cell 0; have m1 := hm.cell 1; have m2 := hm.cell 2; have m3 := hm.cell 3; simp only [gE0, gE1] at x0 y4 z2 m0 m1 m2 m3; clear x y z hm); go_simp; try (with_reducible rfl))
  go_simp
  refine wpT (i := 1) (v := ?vheb1) ?hheb1 hSw ?kheb1
  case hheb1 => (intro w hSw; (obtain ⟨x, y, z⟩ := HK.out _ (later_ HB7.out hSw); have hm := HX7.out.below hSw; have x0 := x.cell 0; have y4 := y.cell 4; have z2 := z.box.cell 2; have m0 := hm.cell 0; have m1 := hm.cell 1; have m2 := hm.cell 2; have m3 := hm.cell 3; simp only [gE0, gE1] at x0 y4 z2 m0 m1 m2 m3; clear x y z hm); go_simp; try (with_reducible rfl))
  go_simp
  refine wpT (i := 2) (v := ?vheb2) ?hheb2 hSw ?kheb2
  case hheb2 => (intro w hSw; (obtain ⟨x, y, z⟩ := HK.out _ (later_ HB7.out hSw); have hm := HX7.out.below hSw; have x0 := x.cell 0; have y4 := y.cell 4; have z2 := z.box.cell 2; have m0 := hm.cell 0; have m1 := hm.cell 1; have m2 := hm.cell 2; have m3 := hm.cell 3; simp only [gE0, gE1] at x0 y4 z2 m0 m1 m2 m3; clear x y z hm); go_simp; try (with_reducible rfl))
  go_simp
  refine wpT (i := 3) (v := ?vheb3) ?hheb3 hSw ?kheb3
  case hheb3 => (intro w hSw; (obtain ⟨x, y, z⟩ := HK.out _ (later_ HB7.out hSw); have hm := HX7.out.below hSw; have x0 := x.cell 0; have y4 := y.cell 4; have z2 := z.box.cell 2; have m0 := hm.cell 0; have m1 := hm.cell 1; have m2 := hm.cell 2; have m3 := hm.cell 3; simp only [gE0, gE1] at x0 y4 z2 m0 m1 m2 m3; clear x y z hm); go_simp; try (with_reducible rfl))
  go_simp
  refine wpT (i := 4) (v := ?vheb4) ?hheb4 hSw ?kheb4
  case hheb4 => (intro w hSw; (obtain ⟨x, y, z⟩ := HK.out _ (later_ HB7.out hSw); have hm := HX7.out.below hSw; have x0 := x.cell 0; have y4 := y.cell 4; have z2 := z.box.cell 2; have m0 := hm.cell 0; have m1 := hm.cell 1; have m2 := hm.cell 2; have m3 := hm.cell 3; simp only [gE0, gE1] at x0 y4 z2 m0 m1 m2 m3; clear x y z hm); go_simp; try (with_reducible rfl))
  go_simp
  refine wpT (i := 5) (v := ?vheb5) ?hheb5 hSw ?kheb5
  case hheb5 => (intro w hSw; (obtain ⟨x, y, z⟩ := HK.out _ (later_ HB7.out hSw); have hm := HX7.out.below hSw; have x0 := x.cell 0; have y4 := y.cell 4; have z2 := z.box.cell 2; have m0 := hm.cell 0; have m1 := hm.cell 1; have m2 := hm.cell 2; have m3 := hm.cell 3; simp only [gE0, gE1] at x0 y4 z2 m0 m1 m2 m3; clear x y z hm); go_simp; try (with_reducible rfl))
  go_simp
  refine wpT (i := 6) (v := ?vheb6) ?hheb6 hSw ?kheb6
  case hheb6 => (intro w hSw; (obtain ⟨x, y, z⟩ := HK.out _ (later_ HB7.out hSw); have hm := HX7.out.below hSw; have x0 := x.cell 0; have y4 := y.cell 4; have z2 := z.box.cell 2; have m0 := hm.cell 0; have m1 := hm.cell 1; have m2 := hm.cell 2; have m3 := hm.cell 3; simp only [gE0, gE1] at x0 y4 z2 m0 m1 m2 m3; clear x y z hm); go_simp; try (with_reducible rfl))
  go_simp
  refine wpAnyH_ready (rs := [7, 11]) (by kernel_rfl) (by simp) ?_
  refine AllReadyH.cons rfl (fun K hK => ?_) (AllReadyH.cons rfl (fun K hK => ?_) AllReadyH.nil)
  ·go_simp
   with_reducible refine (HS2.out _ hSw).mono ?_
   rintro e w7 ⟨rfl, hb7⟩
   go_simp
   refine hK.out _ _ (later_ hSw hb7) (fun hSn => ?_)
   clear hK K hSw
   have hSw := hSn
   clear hSn
   go_simp
   (have hs7 := hSw; first | have hbx := hbx.below hb7 | skip); (refine wpT (i := 8) (v := ?_) ?_ hSw ?_; rotate_left; (focus (intro w hSw; (obtain ⟨x, y, z⟩ := HK.out _ (later_ HB7.out hSw); have hm := HX7.out.below hSw; have x0 := x.cell 0; have y4 := y.cell 4; have z2 := z.box.cell 2; have m0 := hm.cell 0; have m1 := hm.cell 1; have m2 := hm.cell 2; have m3 := hm.cell 3; simp only [gE0, gE1] at x0 y4 z2 m0 m1 m2 m3; clear x y z hm); go_simp; try (with_reducible rfl))); go_simp); (refine wpT (i := 9) (v := ?_) ?_ hSw ?_; rotate_left; (focus (intro w hSw; (obtain ⟨x, y, z⟩ := HK.out _ (later_ HB7.out hSw); have hm := HX7.out.below hSw; have x0 := x.cell 0; have y4 := y.cell 4; have z2 := z.box.cell 2; have m0 := hm.cell 0; have m1 := hm.cell 1; have m2 := hm.cell 2; have m3 := hm.cell 3; simp only [gE0, gE1] at x0 y4 z2 m0 m1 m2 m3; clear x y z hm); go_simp; try (with_reducible rfl))); go_simp); (refine wpT (i := 10) (v := ?_) ?_ hSw ?_; rotate_left; (focus (intro w hSw; (obtain ⟨x, y, z⟩ := HK.out _ (later_ HB7.out hSw); have hm := HX7.out.below hSw; have x0 := x.cell 0; have y4 := y.cell 4; have z2 := z.box.cell 2; have m0 := hm.cell 0; have m1 := hm.cell 1; have m2 := hm.cell 2; have m3 := hm.cell 3; simp only [gE0, gE1] at x0 y4 z2 m0 m1 m2 m3; clear x y z hm); go_simp; try (with_reducible rfl))); go_simp)
   refine wpAnyH_ready (rs := [11]) (by kernel_rfl) (by simp) ?_
   refine AllReadyH.cons rfl (fun K hK => ?_) AllReadyH.nil
   ·have hge := hSw.size
    go_simp
    refine hK.out _ _ (hSw.alloc hSw.size _) (fun hSn => ?_)
    clear hK K hSw
    have hSw := hSn
    clear hSn
    go_simp
    first | have hbx := box_of hSw | have hbx := box_od hSw
    refine wpAnyH_ready (rs := [12]) (by kernel_rfl) (by simp) ?_
    refine AllReadyH.cons rfl (fun K hK => ?_) AllReadyH.nil
    (have f0 := hbx.free 0; have f1 := hbx.free 1; have f2 := hbx.free 2; have f3 := hbx.free 3; have p0 := hbx.cell 0; have p1 := hbx.cell 1; have p2 := hbx.cell 2; have p3 := hbx.cell 3; simp only [gE0, gE1] at p0 p1 p2 p3)
    go_simp
    refine hK.out _ _ (by with_reducible first | exact hs7.alloc hge _ | exact (((hSw.setCell hge _).setCell hge _).setCell hge _).setCell hge _) (fun hSn => ?_)
    clear hK K hSw
    have hSw := hSn
    clear hSn
    go_simp
    refine wpT (i := 13) (v := ?vhebaa13) ?hhebaa13 hSw ?khebaa13
    case hhebaa13 => (intro w hSw; (obtain ⟨x, y, z⟩ := HK.out _ (later_ HB7.out hSw); have hm := HX7.out.below hSw; have x0 := x.cell 0; have y4 := y.cell 4; have z2 := z.box.cell 2; have m0 := hm.cell 0; have m1 := hm.cell 1; have m2 := hm.cell 2; have m3 := hm.cell 3; simp only [gE0, gE1] at x0 y4 z2 m0 m1 m2 m3; clear x y z hm); go_simp; try (with_reducible rfl))
    go_simp
    refine wpAnyH_done (by kernel_rfl) ?_ _
    clear HS2
    go_wp2_with fail
    first | (with_reducible have hby := box_of hSw) | have hby := (((hbx.store 0 (.int .u64 (mt.floor : Int))).store 1 (.int .u64 (no : Int))).store 2 (.int .u64 (now : Int))).store 3 (.int .u64 (mt.lease : Int))
    simp only [List.set_cons_zero, List.set_cons_succ] at hby
    obtain ⟨W8, hW8, h8, hby⟩ := named_ (Q := fun W => Below W6.heap.size W6 W ∧ BoxO W 32 _ [.int .u64 (mt.floor : Int), .int .u64 (no : Int), .int .u64 (now : Int), .int .u64 (mt.lease : Int)]) ⟨hSw, hby⟩
    obtain ⟨g8, hg8, hby, hge8⟩ := named_ (Q := fun g => BoxO W8 32 g [.int .u64 (mt.floor : Int), .int .u64 (no : Int), .int .u64 (now : Int), .int .u64 (mt.lease : Int)] ∧ W6.heap.size ≤ g) ⟨hby, hge⟩
    rw [← hW8]
    rw [← hg8]
    have hd8 : Below W8.heap.size W8 W8.drew := below_drew (Below.refl _ _)
    have hVW := HVS.out _ (later_ h8 hd8)
    obtain ⟨x, y, z⟩ := HK.out _ (later_ HB7.out (later_ h8 hd8))
    have HVW := Lib.hid hVW
    have HBW := Lib.hid (HB.out.trans ((later_ HB7.out (later_ h8 hd8)).mono HB.out.size))
    have HZZ := Lib.hid z
    have HGX := Lib.hid (show ∀ g, w.heap.size ≤ g → g ∉ XY X Y from fun g hg hm => by have := HL.out.1 g hm; omega)
    have HG8 := Lib.hid (Nat.le_trans (Nat.le_trans HB.out.size HB7.out.size) hge8)
    have hS0 : BoxO W8.drew 42 g0 [.pointer (some ⟨nb, 0, none⟩)] ∧ BoxO W8.drew 32 g8 [.int .u64 (mt.floor : Int), .int .u64 (no : Int), .int .u64 (now : Int), .int .u64 (mt.lease : Int)] ∧ BoxO W8.drew 100 nb [.int .i64 ni, .pointer (some ⟨Y.s, 0, none⟩), .int .u64 (now : Int), .int .u64 (grace : Int)] := ⟨x, hby, z.box⟩
    clear hSw hbx hby hge hb7 hs7 x y z HVS h8 hd8 hVW hge8 hg8 hW8
    refine wp_region_held_drew (S := fun w' => BoxO w' 42 g0 [.pointer (some ⟨nb, 0, none⟩)] ∧ BoxO w' 32 g8 [.int .u64 (mt.floor : Int), .int .u64 (no : Int), .int .u64 (now : Int), .int .u64 (mt.lease : Int)] ∧ BoxO w' 100 nb [.int .i64 ni, .pointer (some ⟨Y.s, 0, none⟩), .int .u64 (now : Int), .int .u64 (grace : Int)]) rfl hS0 (fun hSw => ?_)
    (refine wpT (i := 0) (v := ?_) ?_ hSw ?_; rotate_left; (focus (intro w hSw; (obtain ⟨x, y, z⟩ := hSw; have x0 := x.cell 0; have z1 := z.cell 1; have m0 := y.cell 0; have m1 := y.cell 1; have m2 := y.cell 2; have m3 := y.cell 3; simp only [gE0, gE1] at x0 z1 m0 m1 m2 m3; clear x y z); go_simp; try (with_reducible rfl))); go_simp)
    (refine wpT (i := 1) (v := ?_) ?_ hSw ?_; rotate_left; (focus (intro w hSw; (obtain ⟨x, y, z⟩ := hSw; have x0 := x.cell 0; have z1 := z.cell 1; have m0 := y.cell 0; have m1 := y.cell 1; have m2 := y.cell 2; have m3 := y.cell 3; simp only [gE0, gE1] at x0 z1 m0 m1 m2 m3; clear x y z); go_simp; try (with_reducible rfl))); go_simp)
    (refine wpT (i := 2) (v := ?_) ?_ hSw ?_; rotate_left; (focus (intro w hSw; (obtain ⟨x, y, z⟩ := hSw; have x0 := x.cell 0; have z1 := z.cell 1; have m0 := y.cell 0; have m1 := y.cell 1; have m2 := y.cell 2; have m3 := y.cell 3; simp only [gE0, gE1] at x0 z1 m0 m1 m2 m3; clear x y z); go_simp; try (with_reducible rfl))); go_simp)
    (refine wpT (i := 3) (v := ?_) ?_ hSw ?_; rotate_left; (focus (intro w hSw; (obtain ⟨x, y, z⟩ := hSw; have x0 := x.cell 0; have z1 := z.cell 1; have m0 := y.cell 0; have m1 := y.cell 1; have m2 := y.cell 2; have m3 := y.cell 3; simp only [gE0, gE1] at x0 z1 m0 m1 m2 m3; clear x y z); go_simp; try (with_reducible rfl))); go_simp)
    (refine wpT (i := 4) (v := ?_) ?_ hSw ?_; rotate_left; (focus (intro w hSw; (obtain ⟨x, y, z⟩ := hSw; have x0 := x.cell 0; have z1 := z.cell 1; have m0 := y.cell 0; have m1 := y.cell 1; have m2 := y.cell 2; have m3 := y.cell 3; simp only [gE0, gE1] at x0 z1 m0 m1 m2 m3; clear x y z); go_simp; try (with_reducible rfl))); go_simp)
    refine wpAnyH_ready (rs := [5]) (by kernel_rfl) (by simp) ?_
    refine AllReadyH.cons rfl (fun K hK => ?_) AllReadyH.nil
    go_simp
    with_reducible refine HVW.out.mono ?_
    rintro e w10 ⟨rfl, hu⟩
    go_simp
    refine hK.out _ _ ⟨hSw.1.chg hu.c (HGX.out _ (by have := HW.out.2; omega)), hSw.2.1.chg hu.c (HGX.out _ HG8.out), hSw.2.2.chg hu.c HZZ.out.out⟩ (fun hSn => ?_)
    clear hK K hSw hSn
    go_simp
    refine wpAnyH_done (by kernel_rfl) ?_ _
    have hz : HPost X Y w R.1 R.2 nb ni now grace frm mi none (.returned (.slice none 0 0)) w10 := by rw [HR3.out]; exact (HZZ.out.upd hu).mute HBW.out
    have HZ := Lib.hid hz
    clear hz hu HZZ HVW HBW
    go_wp2
    go_ret
    exact HZ.out
  ·have hge := hSw.size
   go_simp
   refine hK.out _ _ (hSw.alloc hSw.size _) (fun hSn => ?_)
   clear hK K hSw
   have hSw := hSn
   clear hSn
   go_simp
   first | have hbx := box_of hSw | have hbx := box_od hSw
   refine wpAnyH_ready (rs := [7]) (by kernel_rfl) (by simp) ?_
   refine AllReadyH.cons rfl (fun K hK => ?_) AllReadyH.nil
   ·go_simp
    with_reducible refine (HS2.out _ hSw).mono ?_
    rintro e w7 ⟨rfl, hb7⟩
    go_simp
    refine hK.out _ _ (later_ hSw hb7) (fun hSn => ?_)
    clear hK K hSw
    have hSw := hSn
    clear hSn
    go_simp
    (have hs7 := hSw; first | have hbx := hbx.below hb7 | skip); (refine wpT (i := 8) (v := ?_) ?_ hSw ?_; rotate_left; (focus (intro w hSw; (obtain ⟨x, y, z⟩ := HK.out _ (later_ HB7.out hSw); have hm := HX7.out.below hSw; have x0 := x.cell 0; have y4 := y.cell 4; have z2 := z.box.cell 2; have m0 := hm.cell 0; have m1 := hm.cell 1; have m2 := hm.cell 2; have m3 := hm.cell 3; simp only [gE0, gE1] at x0 y4 z2 m0 m1 m2 m3; clear x y z hm); go_simp; try (with_reducible rfl))); go_simp); (refine wpT (i := 9) (v := ?_) ?_ hSw ?_; rotate_left; (focus (intro w hSw; (obtain ⟨x, y, z⟩ := HK.out _ (later_ HB7.out hSw); have hm := HX7.out.below hSw; have x0 := x.cell 0; have y4 := y.cell 4; have z2 := z.box.cell 2; have m0 := hm.cell 0; have m1 := hm.cell 1; have m2 := hm.cell 2; have m3 := hm.cell 3; simp only [gE0, gE1] at x0 y4 z2 m0 m1 m2 m3; clear x y z hm); go_simp; try (with_reducible rfl))); go_simp); (refine wpT (i := 10) (v := ?_) ?_ hSw ?_; rotate_left; (focus (intro w hSw; (obtain ⟨x, y, z⟩ := HK.out _ (later_ HB7.out hSw); have hm := HX7.out.below hSw; have x0 := x.cell 0; have y4 := y.cell 4; have z2 := z.box.cell 2; have m0 := hm.cell 0; have m1 := hm.cell 1; have m2 := hm.cell 2; have m3 := hm.cell 3; simp only [gE0, gE1] at x0 y4 z2 m0 m1 m2 m3; clear x y z hm); go_simp; try (with_reducible rfl))); go_simp)
    refine wpAnyH_ready (rs := [12]) (by kernel_rfl) (by simp) ?_
    refine AllReadyH.cons rfl (fun K hK => ?_) AllReadyH.nil
    (have f0 := hbx.free 0; have f1 := hbx.free 1; have f2 := hbx.free 2; have f3 := hbx.free 3; have p0 := hbx.cell 0; have p1 := hbx.cell 1; have p2 := hbx.cell 2; have p3 := hbx.cell 3; simp only [gE0, gE1] at p0 p1 p2 p3)
    go_simp
    refine hK.out _ _ (by with_reducible first | exact hs7.alloc hge _ | exact (((hSw.setCell hge _).setCell hge _).setCell hge _).setCell hge _) (fun hSn => ?_)
    clear hK K hSw
    have hSw := hSn
    clear hSn
    go_simp
    refine wpT (i := 13) (v := ?vhebba13) ?hhebba13 hSw ?khebba13
    case hhebba13 => (intro w hSw; (obtain ⟨x, y, z⟩ := HK.out _ (later_ HB7.out hSw); have hm := HX7.out.below hSw; have x0 := x.cell 0; have y4 := y.cell 4; have z2 := z.box.cell 2; have m0 := hm.cell 0; have m1 := hm.cell 1; have m2 := hm.cell 2; have m3 := hm.cell 3; simp only [gE0, gE1] at x0 y4 z2 m0 m1 m2 m3; clear x y z hm); go_simp; try (with_reducible rfl))
    go_simp
    refine wpAnyH_done (by kernel_rfl) ?_ _
    clear HS2
    go_wp2_with fail
    first | (with_reducible have hby := box_of hSw) | have hby := (((hbx.store 0 (.int .u64 (mt.floor : Int))).store 1 (.int .u64 (no : Int))).store 2 (.int .u64 (now : Int))).store 3 (.int .u64 (mt.lease : Int))
    simp only [List.set_cons_zero, List.set_cons_succ] at hby
    obtain ⟨W8, hW8, h8, hby⟩ := named_ (Q := fun W => Below W6.heap.size W6 W ∧ BoxO W 32 _ [.int .u64 (mt.floor : Int), .int .u64 (no : Int), .int .u64 (now : Int), .int .u64 (mt.lease : Int)]) ⟨hSw, hby⟩
    obtain ⟨g8, hg8, hby, hge8⟩ := named_ (Q := fun g => BoxO W8 32 g [.int .u64 (mt.floor : Int), .int .u64 (no : Int), .int .u64 (now : Int), .int .u64 (mt.lease : Int)] ∧ W6.heap.size ≤ g) ⟨hby, hge⟩
    rw [← hW8]
    rw [← hg8]
    have hd8 : Below W8.heap.size W8 W8.drew := below_drew (Below.refl _ _)
    have hVW := HVS.out _ (later_ h8 hd8)
    obtain ⟨x, y, z⟩ := HK.out _ (later_ HB7.out (later_ h8 hd8))
    have HVW := Lib.hid hVW
    have HBW := Lib.hid (HB.out.trans ((later_ HB7.out (later_ h8 hd8)).mono HB.out.size))
    have HZZ := Lib.hid z
    have HGX := Lib.hid (show ∀ g, w.heap.size ≤ g → g ∉ XY X Y from fun g hg hm => by have := HL.out.1 g hm; omega)
    have HG8 := Lib.hid (Nat.le_trans (Nat.le_trans HB.out.size HB7.out.size) hge8)
    have hS0 : BoxO W8.drew 42 g0 [.pointer (some ⟨nb, 0, none⟩)] ∧ BoxO W8.drew 32 g8 [.int .u64 (mt.floor : Int), .int .u64 (no : Int), .int .u64 (now : Int), .int .u64 (mt.lease : Int)] ∧ BoxO W8.drew 100 nb [.int .i64 ni, .pointer (some ⟨Y.s, 0, none⟩), .int .u64 (now : Int), .int .u64 (grace : Int)] := ⟨x, hby, z.box⟩
    clear hSw hbx hby hge hb7 hs7 x y z HVS h8 hd8 hVW hge8 hg8 hW8
    refine wp_region_held_drew (S := fun w' => BoxO w' 42 g0 [.pointer (some ⟨nb, 0, none⟩)] ∧ BoxO w' 32 g8 [.int .u64 (mt.floor : Int), .int .u64 (no : Int), .int .u64 (now : Int), .int .u64 (mt.lease : Int)] ∧ BoxO w' 100 nb [.int .i64 ni, .pointer (some ⟨Y.s, 0, none⟩), .int .u64 (now : Int), .int .u64 (grace : Int)]) rfl hS0 (fun hSw => ?_)
    (refine wpT (i := 0) (v := ?_) ?_ hSw ?_; rotate_left; (focus (intro w hSw; (obtain ⟨x, y, z⟩ := hSw; have x0 := x.cell 0; have z1 := z.cell 1; have m0 := y.cell 0; have m1 := y.cell 1; have m2 := y.cell 2; have m3 := y.cell 3; simp only [gE0, gE1] at x0 z1 m0 m1 m2 m3; clear x y z); go_simp; try (with_reducible rfl))); go_simp)
    (refine wpT (i := 1) (v := ?_) ?_ hSw ?_; rotate_left; (focus (intro w hSw; (obtain ⟨x, y, z⟩ := hSw; have x0 := x.cell 0; have z1 := z.cell 1; have m0 := y.cell 0; have m1 := y.cell 1; have m2 := y.cell 2; have m3 := y.cell 3; simp only [gE0, gE1] at x0 z1 m0 m1 m2 m3; clear x y z); go_simp; try (with_reducible rfl))); go_simp)
    (refine wpT (i := 2) (v := ?_) ?_ hSw ?_; rotate_left; (focus (intro w hSw; (obtain ⟨x, y, z⟩ := hSw; have x0 := x.cell 0; have z1 := z.cell 1; have m0 := y.cell 0; have m1 := y.cell 1; have m2 := y.cell 2; have m3 := y.cell 3; simp only [gE0, gE1] at x0 z1 m0 m1 m2 m3; clear x y z); go_simp; try (with_reducible rfl))); go_simp)
    (refine wpT (i := 3) (v := ?_) ?_ hSw ?_; rotate_left; (focus (intro w hSw; (obtain ⟨x, y, z⟩ := hSw; have x0 := x.cell 0; have z1 := z.cell 1; have m0 := y.cell 0; have m1 := y.cell 1; have m2 := y.cell 2; have m3 := y.cell 3; simp only [gE0, gE1] at x0 z1 m0 m1 m2 m3; clear x y z); go_simp; try (with_reducible rfl))); go_simp)
    (refine wpT (i := 4) (v := ?_) ?_ hSw ?_; rotate_left; (focus (intro w hSw; (obtain ⟨x, y, z⟩ := hSw; have x0 := x.cell 0; have z1 := z.cell 1; have m0 := y.cell 0; have m1 := y.cell 1; have m2 := y.cell 2; have m3 := y.cell 3; simp only [gE0, gE1] at x0 z1 m0 m1 m2 m3; clear x y z); go_simp; try (with_reducible rfl))); go_simp)
    refine wpAnyH_ready (rs := [5]) (by kernel_rfl) (by simp) ?_
    refine AllReadyH.cons rfl (fun K hK => ?_) AllReadyH.nil
    go_simp
    with_reducible refine HVW.out.mono ?_
    rintro e w10 ⟨rfl, hu⟩
    go_simp
    refine hK.out _ _ ⟨hSw.1.chg hu.c (HGX.out _ (by have := HW.out.2; omega)), hSw.2.1.chg hu.c (HGX.out _ HG8.out), hSw.2.2.chg hu.c HZZ.out.out⟩ (fun hSn => ?_)
    clear hK K hSw hSn
    go_simp
    refine wpAnyH_done (by kernel_rfl) ?_ _
    have hz : HPost X Y w R.1 R.2 nb ni now grace frm mi none (.returned (.slice none 0 0)) w10 := by rw [HR3.out]; exact (HZZ.out.upd hu).mute HBW.out
    have HZ := Lib.hid hz
    clear hz hu HZZ HVW HBW
    go_wp2
    go_ret
    exact HZ.out
end
section
open Go Go.RowKit Go.Lib Go.Shelf
variable {w w1 w2 : World} {X X1 X2 : Dw} {S S1 S2 : Sd} {Y Y1 Y2 : Yw} {V V1 V2 : Sv} {nb now grace : Nat} {ni : Int}
theorem nlast_low (h : NdAt w X S Y V nb ni now grace) (hN : Nrm V) (A : Option Addr) (n c : Nat) (l : List It) (hn : n ≤ 1000) (hnc : n ≤ c) (hr : Row w.heap.size w A n 5 (itc l)) (hA : 0 < n → ∀ a, A = some a → a.block ∉ XY X Y) (hfit : ∀ x ∈ l, x.fit) :
  Calls Tryz.prog 44 #[.pointer (some ⟨nb, 0, none⟩), .slice A n c] w fun e w' => e = .returned (.bool (St.last S V l).2.2) ∧ NdUpd X Y w w' (St.last S V l).1 (St.last S V l).2.1 nb ni now grace := by
 by_cases hj : joins V.st l = V.st
 ·exact nlast_same h hN A n c l hn hr hj
 ·have h0 : 0 < n := by
   rcases Nat.eq_zero_or_pos n with h0 | h0
   ·have := hr.itlen
    have hl : l = [] := List.length_eq_zero_iff.1 (by omega)
    rw [hl] at hj
    exact absurd rfl hj
   ·exact h0
  exact nlast_new h hN A n c l h0 hn hnc hr (hA h0) hfit hj
theorem hput_low (h : NdAt w X S Y V nb ni now grace) (hN : Nrm V) (frm : Int) (mi no : Nat) (A : Option Addr) (n c : Nat) (l : List It) (hg : (Mq.mk 1 frm ni mi no A n c).Good l) (hr : Row w.heap.size w A n 5 (itc l)) (hnc : n ≤ c) (hn : n ≤ 1000) (hA : 0 < n → ∀ a, A = some a → a.block ∉ XY X Y) (hfit : ∀ x ∈ l, x.fit) :
  Calls Tryz.prog 16 #[.pointer (some ⟨nb, 0, none⟩), .agg #[.int .i64 1, .int .i64 frm, .int .i64 ni, .int .u64 (mi : Int), .int .u64 (no : Int), .slice A n c]] w (HPost X Y w (St.put S V l).1 (St.put S V l).2.1 nb ni now grace frm mi (St.put S V l).2.2) := by
 obtain ⟨R, hR⟩ : ∃ R, R = St.put S V l := ⟨_, rfl⟩
 rw [← hR]
 unfold St.put at hR
 have HR := Lib.hid hR
 have HH := Lib.hid h
 clear hR
 have hb1 := (Below.refl w.heap.size w).alloc (Nat.le_refl _) (.cells #[.pointer (some ⟨nb, 0, none⟩)] 42)
 have hb2 := hb1.alloc (by simp) (.cells #[.int .i64 1, .int .i64 frm, .int .i64 ni, .int .u64 (mi : Int), .int .u64 (no : Int), .slice A n c] 47)
 have hx0 := (BoxO.new w #[.pointer (some ⟨nb, 0, none⟩)] 42).alloc (.cells #[.int .i64 1, .int .i64 frm, .int .i64 ni, .int .u64 (mi : Int), .int .u64 (no : Int), .slice A n c] 47)
 have hx1 := BoxO.new (w.alloc (.cells #[.pointer (some ⟨nb, 0, none⟩)] 42)) #[.int .i64 1, .int .i64 frm, .int .i64 ni, .int .u64 (mi : Int), .int .u64 (no : Int), .slice A n c] 47
 rw [World.size_alloc] at hx1
 have h2 := h.below hb2
 have hmf : ∀ (fn : Fn) (first cap : Array Value) (w : World), (Instr.makeFunc fn first cap).run Tryz.prog w = .ok (.func fn first cap) w := fun _ _ _ _ => rfl
 obtain ⟨W, hW⟩ : ∃ W, W = (w.alloc (.cells #[.pointer (some ⟨nb, 0, none⟩)] 42)).alloc (.cells #[.int .i64 1, .int .i64 frm, .int .i64 ni, .int .u64 (mi : Int), .int .u64 (no : Int), .slice A n c] 47) := ⟨_, rfl⟩
 obtain ⟨g0, hg0⟩ : ∃ g0, g0 = w.heap.size := ⟨_, rfl⟩
 rw [← hW] at hb2 hx0 hx1 h2
 rw [← hg0] at hx0 hx1
 have hmo := fun W' (hb : Below W.heap.size W W') => mok_yes _ l W' hg ((((hr.below hb2).up hb2.size).below hb).up hb.size)
 unfold Mq.val at hmo
 simp only at hmo
 have HMO := Lib.hid hmo
 have H2 := Lib.hid h2
 have HX := Lib.hid (And.intro hx0 hx1)
 have HB := Lib.hid hb2
 have HW := Lib.hid (And.intro hW hg0)
 have HROW := Lib.hid ((hr.below hb2).up hb2.size)
 have HL := Lib.hid (And.intro h.at_.lt (And.intro h.box.lt h.at_.dm.env.base))
 have HK := Lib.hid (fun W' (hb : Below W.heap.size W W') => And.intro (hx0.below hb) (And.intro (hx1.below hb) (h2.below hb)))
 clear hmo h2 hx0 hx1 hb1 hb2 hW hg0 hr h hg
 go_enter Tryz.func16, Tryz.ntmps16
 go_wp2_with fail
 rw [← HW.out.1, ← HW.out.2]
 refine wp_region_held_drew (S := fun w' => Below W.heap.size W w') rfl (below_drew (Below.refl _ _)) (fun hSw => ?_)
 refine wpT (i := 0) (v := ?vhpu0) ?hhpu0 hSw ?khpu0
 case hhpu0 => (intro w hSw; (obtain ⟨x, y, z⟩ := HK.out _ hSw; have x0 := x.cell 0; have y0 := y.cell 0; have y1 := y.cell 1; have y2 := y.cell 2; have y3 := y.cell 3; have y4 := y.cell 4; have y5 := y.cell 5; have z0 := z.box.cell 0; simp only [gE0, gE1] at x0 y0 y1 y2 y3 y4 y5 z0; clear x y z); go_simp; try (with_reducible rfl))
 go_simp
 refine wpAnyH_ready (rs := [1]) (by kernel_rfl) (by simp) ?_
 refine AllReadyH.cons rfl (fun K hK => ?_) AllReadyH.nil
 go_simp
 with_reducible refine (HMO.out _ hSw).mono ?_
 rintro e w3 ⟨rfl, hb3⟩
 go_simp
 refine hK.out _ _ (later_ hSw hb3) (fun hSn => ?_)
 clear hK K hSw
 have hSw := hSn
 clear hSn
 go_simp
 refine wpT (i := 2) (v := ?vhpu2) ?hhpu2 hSw ?khpu2
 case hhpu2 => (intro w hSw; (obtain ⟨x, y, z⟩ := HK.out _ hSw; have x0 := x.cell 0; have y0 := y.cell 0; have y1 := y.cell 1; have y2 := y.cell 2; have y3 := y.cell 3; have y4 := y.cell 4; have y5 := y.cell 5; have z0 := z.box.cell 0; simp only [gE0, gE1] at x0 y0 y1 y2 y3 y4 y5 z0; clear x y z); go_simp; try (with_reducible rfl))
 go_simp
 refine wpT (i := 3) (v := ?vhpu3) ?hhpu3 hSw ?khpu3
 case hhpu3 => (intro w hSw; (obtain ⟨x, y, z⟩ := HK.out _ hSw; have x0 := x.cell 0; have y0 := y.cell 0; have y1 := y.cell 1; have y2 := y.cell 2; have y3 := y.cell 3; have y4 := y.cell 4; have y5 := y.cell 5; have z0 := z.box.cell 0; simp only [gE0, gE1] at x0 y0 y1 y2 y3 y4 y5 z0; clear x y z); go_simp; try (with_reducible rfl))
 go_simp
 refine wpT (i := 4) (v := ?vhpu4) ?hhpu4 hSw ?khpu4
 case hhpu4 => (intro w hSw; (obtain ⟨x, y, z⟩ := HK.out _ hSw; have x0 := x.cell 0; have y0 := y.cell 0; have y1 := y.cell 1; have y2 := y.cell 2; have y3 := y.cell 3; have y4 := y.cell 4; have y5 := y.cell 5; have z0 := z.box.cell 0; simp only [gE0, gE1] at x0 y0 y1 y2 y3 y4 y5 z0; clear x y z); go_simp; try (with_reducible rfl))
 go_simp
 refine wpT (i := 5) (v := ?vhpu5) ?hhpu5 hSw ?khpu5
 case hhpu5 => (intro w hSw; (obtain ⟨x, y, z⟩ := HK.out _ hSw; have x0 := x.cell 0; have y0 := y.cell 0; have y1 := y.cell 1; have y2 := y.cell 2; have y3 := y.cell 3; have y4 := y.cell 4; have y5 := y.cell 5; have z0 := z.box.cell 0; simp only [gE0, gE1] at x0 y0 y1 y2 y3 y4 y5 z0; clear x y z); go_simp; try (with_reducible rfl))
 go_simp
 refine wpT (i := 6) (v := ?vhpu6) ?hhpu6 hSw ?khpu6
 case hhpu6 => (intro w hSw; (obtain ⟨x, y, z⟩ := HK.out _ hSw; have x0 := x.cell 0; have y0 := y.cell 0; have y1 := y.cell 1; have y2 := y.cell 2; have y3 := y.cell 3; have y4 := y.cell 4; have y5 := y.cell 5; have z0 := z.box.cell 0; simp only [gE0, gE1] at x0 y0 y1 y2 y3 y4 y5 z0; clear x y z); go_simp; try (with_reducible rfl))
 go_simp
 refine wpT (i := 7) (v := ?vhpu7) ?hhpu7 hSw ?khpu7
 case hhpu7 => (intro w hSw; (obtain ⟨x, y, z⟩ := HK.out _ hSw; have x0 := x.cell 0; have y0 := y.cell 0; have y1 := y.cell 1; have y2 := y.cell 2; have y3 := y.cell 3; have y4 := y.cell 4; have y5 := y.cell 5; have z0 := z.box.cell 0; simp only [gE0, gE1] at x0 y0 y1 y2 y3 y4 y5 z0; clear x y z); go_simp; try (with_reducible rfl))
 go_simp
 refine wpT (i := 8) (v := ?vhpu8) ?hhpu8 hSw ?khpu8
 case hhpu8 => (intro w hSw; (obtain ⟨x, y, z⟩ := HK.out _ hSw; have x0 := x.cell 0; have y0 := y.cell 0; have y1 := y.cell 1; have y2 := y.cell 2; have y3 := y.cell 3; have y4 := y.cell 4; have y5 := y.cell 5; have z0 := z.box.cell 0; simp only [gE0, gE1] at x0 y0 y1 y2 y3 y4 y5 z0; clear x y z); go_simp; try (with_reducible rfl))
 go_simp
 refine wpT (i := 9) (v := ?vhpu9) ?hhpu9 hSw ?khpu9
 case hhpu9 => (intro w hSw; (obtain ⟨x, y, z⟩ := HK.out _ hSw; have x0 := x.cell 0; have y0 := y.cell 0; have y1 := y.cell 1; have y2 := y.cell 2; have y3 := y.cell 3; have y4 := y.cell 4; have y5 := y.cell 5; have z0 := z.box.cell 0; simp only [gE0, gE1] at x0 y0 y1 y2 y3 y4 y5 z0; clear x y z); go_simp; try (with_reducible rfl))
 go_simp
 refine wpT (i := 10) (v := ?vhpu10) ?hhpu10 hSw ?khpu10
 case hhpu10 => (intro w hSw; (obtain ⟨x, y, z⟩ := HK.out _ hSw; have x0 := x.cell 0; have y0 := y.cell 0; have y1 := y.cell 1; have y2 := y.cell 2; have y3 := y.cell 3; have y4 := y.cell 4; have y5 := y.cell 5; have z0 := z.box.cell 0; simp only [gE0, gE1] at x0 y0 y1 y2 y3 y4 y5 z0; clear x y z); go_simp; try (with_reducible rfl))
 go_simp
 refine wpT (i := 11) (v := ?vhpu11) ?hhpu11 hSw ?khpu11
 case hhpu11 => (intro w hSw; (obtain ⟨x, y, z⟩ := HK.out _ hSw; have x0 := x.cell 0; have y0 := y.cell 0; have y1 := y.cell 1; have y2 := y.cell 2; have y3 := y.cell 3; have y4 := y.cell 4; have y5 := y.cell 5; have z0 := z.box.cell 0; simp only [gE0, gE1] at x0 y0 y1 y2 y3 y4 y5 z0; clear x y z); go_simp; try (with_reducible rfl))
 go_simp
 refine wpAnyH_done (by kernel_rfl) ?_ _
 have hb4 := later_ (below_drew (Below.refl W.heap.size W)) hb3
 clear hSw hb3 HMO
 obtain ⟨x, y, z⟩ := HK.out _ hb4
 have x0 := x.cell 0
 have z1 := z.box.cell 1
 simp only [gE0, gE1] at x0 z1
 have HME := Lib.hid (smeta_any z.at_ (by have := hN.files; omega))
 have HB4 := Lib.hid hb4
 clear x y z hb4
 go_wp2_with fail
 with_reducible refine HME.out.mono ?_
 rintro e w4 ⟨rfl, hb5⟩
 obtain ⟨mt, hmt⟩ : ∃ mt, mt = St.meta_ V := ⟨_, rfl⟩
 have HB5 := Lib.hid (later_ HB4.out hb5)
 have hb6 := later_ HB5.out ((Below.refl w4.heap.size w4).alloc (Nat.le_refl _) (.cells #[.int .u64 (mt.floor : Int), .int .u64 (mt.cert : Int), .int .u64 (mt.at_ : Int), .int .u64 (mt.lease : Int)] 32))
 have HX6 := Lib.hid (BoxO.new w4 #[.int .u64 (mt.floor : Int), .int .u64 (mt.cert : Int), .int .u64 (mt.at_ : Int), .int .u64 (mt.lease : Int)] 32)
 have HB6 := Lib.hid hb6
 rw [← hmt]
 unfold Mt.val
 have HMT := Lib.hid hmt
 clear hmt hb5 HME x0 z1 hb6
 obtain ⟨x, y, z⟩ := HK.out _ HB6.out
 have x0 := x.cell 0
 have y0 := y.cell 0
 have y1 := y.cell 1
 have y3 := y.cell 3
 have y4 := y.cell 4
 have y5 := y.cell 5
 have z0 := z.box.cell 0
 have z1 := z.box.cell 1
 simp only [gE0, gE1] at x0 y0 y1 y3 y4 y5 z0 z1
 have hal := allow_any mt A n c l _ (by omega) ((HROW.out.below HB6.out).up HB6.out.size)
 obtain ⟨ab, hab⟩ : ∃ ab, ab = l.any fun a => decide (a.v ≤ mt.floor) := ⟨_, rfl⟩
 rw [← hab] at hal
 unfold Mt.val at hal
 have hR := HR.out
 rw [show (l.any fun a => decide (a.v ≤ V.M.v.floor)) = ab by rw [hab, HMT.out]; rfl] at hR
 have HR2 := Lib.hid hR
 have HAL := Lib.hid hal
 clear x y z hal hab hR HR
 go_wp2_with fail
 with_reducible refine HAL.out.mono ?_
 rintro e w7 ⟨rfl, hb7⟩
 have HB7 := Lib.hid (later_ HB6.out hb7)
 have hm7 := HX6.out.below hb7
 clear x0 y0 y1 y3 y4 y5 z0 z1 hb7 HAL
 obtain ⟨x, y, z⟩ := HK.out _ HB7.out
 have x0 := x.cell 0
 have y1 := y.cell 1
 have y3 := y.cell 3
 have y5 := y.cell 5
 have z0 := z.box.cell 0
 have m0 := hm7.cell 0
 simp only [gE0, gE1] at x0 y1 y3 y5 z0 m0
 cases ab with
 | true =>
  have hR := HR2.out
  rw [if_pos rfl] at hR
  have HAN := Lib.hid (answer_any g0 (g0 + 1) nb frm ni 3 mi mt.floor none 0 0 w7 x0 z0 y1 y3)
  have HZ : Hid (∀ e w', e = .returned (.slice (some ⟨w7.heap.size, 0, none⟩) 1 1) → Below w7.heap.size w7 w' → Answ w' w7.heap.size 3 ni frm mi mt.floor none 0 0 → HPost X Y w R.1 R.2.1 nb ni now grace frm mi R.2.2 e w') := Lib.hid (by
   intro e w' h1 h2 h3
   rw [hR, show V.M.v.floor = mt.floor by rw [HMT.out]; rfl]
   exact (NdUpd.same HH.out (HB.out.trans (HB7.out.mono HB.out.size))).told (W := w) (Below.refl _ _) Row.nil_ (fun a ha => by cases ha) h1 h2 h3)
  clear hR x y z hm7
  go_wp2_with fail
  with_reducible refine HAN.out.mono ?_
  rintro e w8 ⟨rfl, h8, ha8⟩
  have HY := Lib.hid (HZ.out _ _ rfl h8 ha8)
  clear h8 ha8 HZ HAN
  go_wp2
  go_ret
  exact HY.out
 | false =>
  have hR := HR2.out
  rw [if_neg (by simp)] at hR
  obtain ⟨hl1, hl2, hl3⟩ := HL.out
  have hgx : ∀ g, w.heap.size ≤ g → g ∉ XY X Y := fun g hg hm => by have := hl1 g hm; omega
  have hla := nlast_low z hN A n c l hn hnc ((HROW.out.below HB7.out).up HB7.out.size) hA hfit
  obtain ⟨r, hr⟩ : ∃ r, r = St.last S V l := ⟨_, rfl⟩
  rw [← hr] at hla hR
  obtain ⟨S1, V1, b⟩ := r
  simp only at hla hR
  have HLA := Lib.hid hla
  have HR3 := Lib.hid hR
  have HXY := Lib.hid (And.intro x y)
  have HGX := Lib.hid hgx
  clear hla hR hr hl1 hl2 hl3 hgx x y z hm7
  go_wp2_with fail
  with_reducible refine HLA.out.mono ?_
  rintro e w8 ⟨rfl, hu⟩
  have hR := HR3.out
  have HU := Lib.hid hu
  cases b with
  | false =>
   rw [if_neg (by simp)] at hR
   have HZ : Hid (HPost X Y w R.1 R.2.1 nb ni now grace frm mi R.2.2 (.returned (.slice none 0 0)) w8) := Lib.hid (by
    rw [hR]
    exact HU.out.mute (HB.out.trans (HB7.out.mono HB.out.size)))
   clear hR hu
   go_wp2
   go_ret
   exact HZ.out
  | true =>
   rw [if_pos rfl] at hR
   obtain ⟨X1, Y1, e1, es, h8, c8, f8, _⟩ := hu
   have hg := HW.out.2
   have q0 := (HXY.out.1.chg c8 (HGX.out _ (by omega))).cell 0
   have q1 := (HXY.out.2.chg c8 (HGX.out _ (by omega))).cell 1
   have q3 := (HXY.out.2.chg c8 (HGX.out _ (by omega))).cell 3
   have p0 := h8.box.cell 0
   simp only [gE0, gE1] at q0 q1 q3 p0
   have han := answer_any g0 (g0 + 1) nb frm ni 2 mi 0 none 0 0 w8 q0 p0 q1 q3
   rw [show ((0 : Nat) : Int) = 0 from rfl] at han
   have HAN := Lib.hid han
   have HZ : Hid (∀ e w', e = .returned (.slice (some ⟨w8.heap.size, 0, none⟩) 1 1) → Below w8.heap.size w8 w' → Answ w' w8.heap.size 2 ni frm mi 0 none 0 0 → HPost X Y w R.1 R.2.1 nb ni now grace frm mi R.2.2 e w') := Lib.hid (by
    intro e w' h1 h2 h3
    rw [hR]
    exact HU.out.told (HB.out.trans (HB7.out.mono HB.out.size)) Row.nil_ (fun a ha => by cases ha) h1 h2 h3)
   clear hR hg e1 es h8 c8 f8 han
   go_wp2_with fail
   with_reducible refine HAN.out.mono ?_
   rintro e w9 ⟨rfl, h9, ha9⟩
   have HY := Lib.hid (HZ.out _ _ rfl h9 ha9)
   clear h9 ha9 HZ HAN q0 q1 q3 p0
   go_wp2
   go_ret
   exact HY.out
end
section
open Go Go.RowKit Go.Lib Go.Shelf
variable {w w1 w2 : World} {X X1 X2 : Dw} {S S1 S2 : Sd} {Y Y1 Y2 : Yw} {V V1 V2 : Sv} {nb now grace : Nat} {ni : Int}
def St.msg (S : Sd) (V : Sv) (ni : Int) (now : Nat) (m : Mq) (l : List It) : Sd × Sv × Option (Int × Nat × List It) :=
 if m.ok l = false ∨ m.to_ ≠ ni then (S, V, none) else
 if m.k = 1 then St.put S V l else
 if m.k = 4 then (S, V, if m.no ≤ 255 then some (5, V.M.v.cert, V.st.filter fun a => a.s == (m.no : Int)) else none) else
 if m.k = 6 then (if m.no = 0 then (S, V, some (3, V.M.v.floor, [])) else St.seal S V m.no) else
 if m.k = 8 then ((St.fill S V m.no l).1, (St.fill S V m.no l).2.1, if (St.fill S V m.no l).2.2 = true then some (9, m.no, []) else none) else
 if m.k = 10 then ((St.even S V m.no now).1, (St.even S V m.no now).2, none) else (S, V, none)
theorem Mq.ok_good {m : Mq} {l : List It} (h : m.ok l = true) (hn : m.n ≤ 1500) (hk : m.k = 1 ∨ m.k = 4 ∨ m.k = 6) : m.Good l := by
 unfold Mq.ok isNd hasIt at h
 simp only [Bool.and_eq_true, Bool.or_eq_true, decide_eq_true_eq, beq_iff_eq] at h
 obtain ⟨h1, h2, h3, h4, h5, h6, h7, h8⟩ := h
 refine ⟨⟨h1, h2⟩, h3, h4, h5, h6, hn, h7, ?_⟩
 rcases h8 with h8 | h8
 ·exact .inl h8
 ·rcases hk with hk | hk | hk
  ·exact .inr (.inl hk)
  ·omega
  ·omega
theorem handle_any (h : NdAt w X S Y V nb ni now grace) (hN : Nrm V) (m : Mq) (l : List It) (hr : Row w.heap.size w m.A m.n 5 (itc l)) (hnc : m.n ≤ m.c) (hn : m.n ≤ 1000) (hA : 0 < m.n → ∀ a, m.A = some a → a.block ∉ XY X Y) (hfit : ∀ x ∈ l, x.fit)
  (hnow : now ≤ 281474976710656 ∧ (now = 0 → V.M.v.at_ = 0)) (h4 : V.M.v.floor ≤ 281474976710656 ∧ V.M.v.cert ≤ 281474976710656 ∧ V.M.v.at_ ≤ 281474976710656 ∧ V.M.v.lease ≤ 281474976710656) :
  Calls Tryz.prog 16 #[.pointer (some ⟨nb, 0, none⟩), m.val] w (HPost X Y w (St.msg S V ni now m l).1 (St.msg S V ni now m l).2.1 nb ni now grace m.frm m.id (St.msg S V ni now m l).2.2) := by
 obtain ⟨k, frm, to_, mi, no, A, n, c⟩ := m
 simp only at hr hnc hn hA
 unfold Mq.val
 simp only
 unfold St.msg
 by_cases ho : Mq.ok ⟨k, frm, to_, mi, no, A, n, c⟩ l = false ∨ to_ ≠ ni
 ·rw [if_pos ho]
  exact hno_any h k frm to_ mi no A n c l hn hr ho
 ·rw [if_neg ho]
  have hok : Mq.ok ⟨k, frm, to_, mi, no, A, n, c⟩ l = true := by
   cases he : Mq.ok ⟨k, frm, to_, mi, no, A, n, c⟩ l with
   | true => rfl
   | false => exact absurd (.inl he) ho
  have hto : to_ = ni := Classical.byContradiction fun e => ho (.inr e)
  subst hto
  have hgd := Mq.ok_good hok (by simp only; omega)
  simp only at hgd
  by_cases h1 : k = 1
  ·subst h1
   rw [if_pos rfl]
   exact hput_low h hN frm mi no A n c l (hgd (.inl rfl)) hr hnc hn hA hfit
  rw [if_neg h1]
  by_cases h2 : k = 4
  ·subst h2
   rw [if_pos rfl]
   by_cases h3 : no ≤ 255
   ·rw [if_pos h3]
    exact hask_any h hN frm mi no A n c l (hgd (.inr (.inl rfl))) hr h3
   ·rw [if_neg h3]
    exact hbi_any h hN frm mi no A n c l hok hn hr (by omega)
  rw [if_neg h2]
  by_cases h3 : k = 6
  ·subst h3
   rw [if_pos rfl]
   by_cases h5 : no = 0
   ·rw [if_pos h5]
    exact hze_any h hN frm mi no A n c l hok hn hr h5
   ·rw [if_neg h5]
    exact hseal_any h hN frm mi no A n c l (hgd (.inr (.inr rfl))) hr (by omega) ⟨h4.2.1, h4.2.2.1, h4.2.2.2⟩
  rw [if_neg h3]
  by_cases h5 : k = 8
  ·subst h5
   rw [if_pos rfl]
   exact hfi_any h hN frm mi no A n c l hok hn hr hfit
  rw [if_neg h5]
  by_cases h6 : k = 10
  ·subst h6
   rw [if_pos rfl]
   exact hev_any h hN frm mi no A n c l hok hn hr hnow ⟨h4.1, h4.2.2.2⟩
  rw [if_neg h6]
  exact hot_any h hN frm mi no A n c l k hok hn hr ⟨h1, h2, h3, h5, h6⟩
end
end Go.Proofs.YtdkjoigpahafmaaGreatDoor
