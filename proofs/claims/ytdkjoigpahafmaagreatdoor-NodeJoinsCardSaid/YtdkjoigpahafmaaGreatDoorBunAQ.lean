/- Texts NodI, NodJ, PlainNode, NodK, RefK, RefL, PlainRefAdd in one. No conditions. -/
import Derived.Test.YtdkjoigpahafmaaGreatDoorBunAA
import Derived.Test.YtdkjoigpahafmaaGreatDoorBunAP
import Derived.Laws.StructEq
import Derived.Test.YtdkjoigpahafmaaGreatDoorBunAN
import Derived.Test.YtdkjoigpahafmaaGreatDoorBunAI
import Derived.Test.YtdkjoigpahafmaaGreatDoorBunAO
import Derived.Test.YtdkjoigpahafmaaGreatDoorBunAD

set_option linter.unusedSimpArgs false
set_option linter.unusedVariables false
set_option maxRecDepth 100000
set_option maxHeartbeats 16000000
namespace Go.Proofs.YtdkjoigpahafmaaGreatDoor
section
open Go Go.RowKit Go.Lib Go.Shelf
variable {w w1 w2 : World} {X X1 X2 : Dw} {S S1 S2 : Sd} {Y Y1 Y2 : Yw} {V V1 V2 : Sv} {nb now grace : Nat} {ni : Int}
theorem HPost.up {mf : Int} {mi : Nat} {ans : Option (Int × Nat × List It)} {e : Ending} (e1 : X1.d = X.d) (e2 : Y1.s = Y.s) (c : Chg (XY X Y) w w1) (hf : ∀ g ∈ XY X1 Y1, g ∈ XY X Y ∨ w.heap.size ≤ g) (hn : NewA w Y Y1) (k : HPost X1 Y1 w1 S1 V1 nb ni now grace mf mi ans e w2) : HPost X Y w S1 V1 nb ni now grace mf mi ans e w2 := by
 obtain ⟨X2, Y2, q1, q2, h, c2, f2, n2, r⟩ := k
 refine ⟨X2, Y2, q1.trans e1, q2.trans e2, h, c.trans c2 hf, fun g hg => ?_, hn.trans n2 c.size, ?_⟩
 ·rcases f2 g hg with q | q
  ·exact hf g q
  ·exact .inr (Nat.le_trans c.size q)
 ·cases ans with
  | none => exact r
  | some a =>
   obtain ⟨g, B, n, cc, z1, z2, z3, z4, z5, z6⟩ := r
   exact ⟨g, B, n, cc, z1, z2, Nat.le_trans c.size z3, z4, fun a ha => Nat.le_trans c.size (z5 a ha), z6⟩
theorem NdAt.told (h : NdAt w X S Y V nb ni now grace) {k : Int} {mf : Int} {mi nn : Nat} {B : Option Addr} {n c : Nat} {L : List It} (hb : Below w.heap.size w w1) (hr : Row w1.heap.size w1 B n 5 (itc L)) (hl : ∀ a, B = some a → w.heap.size ≤ a.block)
  (hb2 : Below w1.heap.size w1 w2) (ha : Answ w2 w1.heap.size k ni mf mi nn B n c) : HPost X Y w S V nb ni now grace mf mi (some (k, nn, L)) (.returned (.slice (some ⟨w1.heap.size, 0, none⟩) 1 1)) w2 := by
 have hx := h.at_.lt
 have hs := hb.size
 exact ⟨X, Y, rfl, rfl, (h.below hb).below hb2, Chg.of_below (later_ hb hb2) _, fun _ hg => .inl hg, .inl rfl, _, B, n, c, rfl, ha, hs, (hr.below hb2).up hb2.size, hl, fun hm => by have := hx _ hm; omega, fun a ha hm => by have := hx _ hm; have := hl a ha; omega⟩
theorem hask_any (h : NdAt w X S Y V nb ni now grace) (hN : Nrm V) (frm : Int) (mi no : Nat) (A : Option Addr) (n c : Nat) (l : List It) (hg : (Mq.mk 4 frm ni mi no A n c).Good l) (hr : Row w.heap.size w A n 5 (itc l)) (hno : no ≤ 255) :
  Calls Tryz.prog 16 #[.pointer (some ⟨nb, 0, none⟩), .agg #[.int .i64 4, .int .i64 frm, .int .i64 ni, .int .u64 (mi : Int), .int .u64 (no : Int), .slice A n c]] w (HPost X Y w S V nb ni now grace frm mi (some (5, V.M.v.cert, V.st.filter fun a => a.s == (no : Int)))) := by
 have HH := Lib.hid h
 have hb1 := (Below.refl w.heap.size w).alloc (Nat.le_refl _) (.cells #[.pointer (some ⟨nb, 0, none⟩)] 42)
 have hb2 := hb1.alloc (by simp) (.cells #[.int .i64 4, .int .i64 frm, .int .i64 ni, .int .u64 (mi : Int), .int .u64 (no : Int), .slice A n c] 47)
 have hx0 := (BoxO.new w #[.pointer (some ⟨nb, 0, none⟩)] 42).alloc (.cells #[.int .i64 4, .int .i64 frm, .int .i64 ni, .int .u64 (mi : Int), .int .u64 (no : Int), .slice A n c] 47)
 have hx1 := BoxO.new (w.alloc (.cells #[.pointer (some ⟨nb, 0, none⟩)] 42)) #[.int .i64 4, .int .i64 frm, .int .i64 ni, .int .u64 (mi : Int), .int .u64 (no : Int), .slice A n c] 47
 rw [World.size_alloc] at hx1
 have h2 := h.below hb2
 have hmf : ∀ (fn : Fn) (first cap : Array Value) (w : World), (Instr.makeFunc fn first cap).run Tryz.prog w = .ok (.func fn first cap) w := fun _ _ _ _ => rfl
 obtain ⟨W, hW⟩ : ∃ W, W = (w.alloc (.cells #[.pointer (some ⟨nb, 0, none⟩)] 42)).alloc (.cells #[.int .i64 4, .int .i64 frm, .int .i64 ni, .int .u64 (mi : Int), .int .u64 (no : Int), .slice A n c] 47) := ⟨_, rfl⟩
 obtain ⟨g0, hg0⟩ : ∃ g0, g0 = w.heap.size := ⟨_, rfl⟩
 rw [← hW] at hb2 hx0 hx1 h2
 rw [← hg0] at hx0 hx1
 have hmo := fun W' (hb : Below W.heap.size W W') => mok_yes _ l W' hg ((((hr.below hb2).up hb2.size).below hb).up hb.size)
 unfold Mq.val at hmo
 simp only at hmo
 have HMO := Lib.hid hmo
 have H2 := Lib.hid h2
 have HX := Lib.hid (And.intro hx0 hx1)
 have HB := Lib.hid hb2
 have HW := Lib.hid (And.intro hW hg0)
 have HROW := Lib.hid ((hr.below hb2).up hb2.size)
 have HL := Lib.hid (And.intro h.at_.lt (And.intro h.box.lt h.at_.dm.env.base))
 have HK := Lib.hid (fun W' (hb : Below W.heap.size W W') => And.intro (hx0.below hb) (And.intro (hx1.below hb) (h2.below hb)))
 clear hmo h2 hx0 hx1 hb1 hb2 hW hg0 hr h hg
 go_enter Tryz.func16, Tryz.ntmps16
 go_wp2_with fail
 rw [← HW.out.1, ← HW.out.2]
 refine wp_region_held_drew (S := fun w' => Below W.heap.size W w') rfl (below_drew (Below.refl _ _)) (fun hSw => ?_)
 refine wpT (i := 0) (v := ?vhas0) ?hhas0 hSw ?khas0
 case hhas0 => (intro w hSw; (obtain ⟨x, y, z⟩ := HK.out _ hSw; have x0 := x.cell 0; have y0 := y.cell 0; have y1 := y.cell 1; have y2 := y.cell 2; have y3 := y.cell 3; have y4 := y.cell 4; have y5 := y.cell 5; have z0 := z.box.cell 0; simp only [gE0, gE1] at x0 y0 y1 y2 y3 y4 y5 z0; clear x y z); go_simp; try (with_reducible rfl))
 go_simp
 refine wpAnyH_ready (rs := [1]) (by kernel_rfl) (by simp) ?_
 refine AllReadyH.cons rfl (fun K hK => ?_) AllReadyH.nil
 go_simp
 with_reducible refine (HMO.out _ hSw).mono ?_
 rintro e w3 ⟨rfl, hb3⟩
 go_simp
 refine hK.out _ _ (later_ hSw hb3) (fun hSn => ?_)
 clear hK K hSw
 have hSw := hSn
 clear hSn
 go_simp
 refine wpT (i := 2) (v := ?vhas2) ?hhas2 hSw ?khas2
 case hhas2 => (intro w hSw; (obtain ⟨x, y, z⟩ := HK.out _ hSw; have x0 := x.cell 0; have y0 := y.cell 0; have y1 := y.cell 1; have y2 := y.cell 2; have y3 := y.cell 3; have y4 := y.cell 4; have y5 := y.cell 5; have z0 := z.box.cell 0; simp only [gE0, gE1] at x0 y0 y1 y2 y3 y4 y5 z0; clear x y z); go_simp; try (with_reducible rfl))
 go_simp
 refine wpT (i := 3) (v := ?vhas3) ?hhas3 hSw ?khas3
 case hhas3 => (intro w hSw; (obtain ⟨x, y, z⟩ := HK.out _ hSw; have x0 := x.cell 0; have y0 := y.cell 0; have y1 := y.cell 1; have y2 := y.cell 2; have y3 := y.cell 3; have y4 := y.cell 4; have y5 := y.cell 5; have z0 := z.box.cell 0; simp only [gE0, gE1] at x0 y0 y1 y2 y3 y4 y5 z0; clear x y z); go_simp; try (with_reducible rfl))
 go_simp
 refine wpT (i := 4) (v := ?vhas4) ?hhas4 hSw ?khas4
 case hhas4 => (intro w hSw; (obtain ⟨x, y, z⟩ := HK.out _ hSw; have x0 := x.cell 0; have y0 := y.cell 0; have y1 := y.cell 1; have y2 := y.cell 2; have y3 := y.cell 3; have y4 := y.cell 4; have y5 := y.cell 5; have z0 := z.box.cell 0; simp only [gE0, gE1] at x0 y0 y1 y2 y3 y4 y5 z0; clear x y z); go_simp; try (with_reducible rfl))
 go_simp
 refine wpT (i := 5) (v := ?vhas5) ?hhas5 hSw ?khas5
 case hhas5 => (intro w hSw; (obtain ⟨x, y, z⟩ := HK.out _ hSw; have x0 := x.cell 0; have y0 := y.cell 0; have y1 := y.cell 1; have y2 := y.cell 2; have y3 := y.cell 3; have y4 := y.cell 4; have y5 := y.cell 5; have z0 := z.box.cell 0; simp only [gE0, gE1] at x0 y0 y1 y2 y3 y4 y5 z0; clear x y z); go_simp; try (with_reducible rfl))
 go_simp
 refine wpT (i := 6) (v := ?vhas6) ?hhas6 hSw ?khas6
 case hhas6 => (intro w hSw; (obtain ⟨x, y, z⟩ := HK.out _ hSw; have x0 := x.cell 0; have y0 := y.cell 0; have y1 := y.cell 1; have y2 := y.cell 2; have y3 := y.cell 3; have y4 := y.cell 4; have y5 := y.cell 5; have z0 := z.box.cell 0; simp only [gE0, gE1] at x0 y0 y1 y2 y3 y4 y5 z0; clear x y z); go_simp; try (with_reducible rfl))
 go_simp
 refine wpT (i := 7) (v := ?vhas7) ?hhas7 hSw ?khas7
 case hhas7 => (intro w hSw; (obtain ⟨x, y, z⟩ := HK.out _ hSw; have x0 := x.cell 0; have y0 := y.cell 0; have y1 := y.cell 1; have y2 := y.cell 2; have y3 := y.cell 3; have y4 := y.cell 4; have y5 := y.cell 5; have z0 := z.box.cell 0; simp only [gE0, gE1] at x0 y0 y1 y2 y3 y4 y5 z0; clear x y z); go_simp; try (with_reducible rfl))
 go_simp
 refine wpT (i := 8) (v := ?vhas8) ?hhas8 hSw ?khas8
 case hhas8 => (intro w hSw; (obtain ⟨x, y, z⟩ := HK.out _ hSw; have x0 := x.cell 0; have y0 := y.cell 0; have y1 := y.cell 1; have y2 := y.cell 2; have y3 := y.cell 3; have y4 := y.cell 4; have y5 := y.cell 5; have z0 := z.box.cell 0; simp only [gE0, gE1] at x0 y0 y1 y2 y3 y4 y5 z0; clear x y z); go_simp; try (with_reducible rfl))
 go_simp
 refine wpT (i := 9) (v := ?vhas9) ?hhas9 hSw ?khas9
 case hhas9 => (intro w hSw; (obtain ⟨x, y, z⟩ := HK.out _ hSw; have x0 := x.cell 0; have y0 := y.cell 0; have y1 := y.cell 1; have y2 := y.cell 2; have y3 := y.cell 3; have y4 := y.cell 4; have y5 := y.cell 5; have z0 := z.box.cell 0; simp only [gE0, gE1] at x0 y0 y1 y2 y3 y4 y5 z0; clear x y z); go_simp; try (with_reducible rfl))
 go_simp
 refine wpT (i := 10) (v := ?vhas10) ?hhas10 hSw ?khas10
 case hhas10 => (intro w hSw; (obtain ⟨x, y, z⟩ := HK.out _ hSw; have x0 := x.cell 0; have y0 := y.cell 0; have y1 := y.cell 1; have y2 := y.cell 2; have y3 := y.cell 3; have y4 := y.cell 4; have y5 := y.cell 5; have z0 := z.box.cell 0; simp only [gE0, gE1] at x0 y0 y1 y2 y3 y4 y5 z0; clear x y z); go_simp; try (with_reducible rfl))
 go_simp
 refine wpT (i := 11) (v := ?vhas11) ?hhas11 hSw ?khas11
 case hhas11 => (intro w hSw; (obtain ⟨x, y, z⟩ := HK.out _ hSw; have x0 := x.cell 0; have y0 := y.cell 0; have y1 := y.cell 1; have y2 := y.cell 2; have y3 := y.cell 3; have y4 := y.cell 4; have y5 := y.cell 5; have z0 := z.box.cell 0; simp only [gE0, gE1] at x0 y0 y1 y2 y3 y4 y5 z0; clear x y z); go_simp; try (with_reducible rfl))
 go_simp
 refine wpAnyH_done (by kernel_rfl) ?_ _
 have hb4 := later_ (below_drew (Below.refl W.heap.size W)) hb3
 clear hSw hb3 HMO
 obtain ⟨x, y, z⟩ := HK.out _ hb4
 have x0 := x.cell 0
 have z1 := z.box.cell 1
 simp only [gE0, gE1] at x0 z1
 have HME := Lib.hid (smeta_any z.at_ (by have := hN.files; omega))
 have HB4 := Lib.hid hb4
 clear x y z hb4
 go_wp2_with fail
 with_reducible refine HME.out.mono ?_
 rintro e w4 ⟨rfl, hb5⟩
 obtain ⟨mt, hmt⟩ : ∃ mt, mt = St.meta_ V := ⟨_, rfl⟩
 have HB5 := Lib.hid (later_ HB4.out hb5)
 have hb6 := later_ HB5.out ((Below.refl w4.heap.size w4).alloc (Nat.le_refl _) (.cells #[.int .u64 (mt.floor : Int), .int .u64 (mt.cert : Int), .int .u64 (mt.at_ : Int), .int .u64 (mt.lease : Int)] 32))
 have HX6 := Lib.hid (BoxO.new w4 #[.int .u64 (mt.floor : Int), .int .u64 (mt.cert : Int), .int .u64 (mt.at_ : Int), .int .u64 (mt.lease : Int)] 32)
 have HB6 := Lib.hid hb6
 rw [← hmt]
 unfold Mt.val
 have HMT := Lib.hid hmt
 clear hmt hb5 HME x0 z1 hb6
 obtain ⟨x, y, z⟩ := HK.out _ HB6.out
 have x0 := x.cell 0
 have y0 := y.cell 0
 have y1 := y.cell 1
 have y3 := y.cell 3
 have y4 := y.cell 4
 have y5 := y.cell 5
 have z0 := z.box.cell 0
 have z1 := z.box.cell 1
 simp only [gE0, gE1] at x0 y0 y1 y3 y4 y5 z0 z1
 have e1 : ((no : Int) ≤ (255 : Int)) = True := eq_true (by omega)
 have hwn : IntKind.i64.wrap (no : Int) = (no : Int) := IntWalk.i64_in _ (by omega)
 obtain ⟨W6, hW6⟩ : ∃ W6, W6 = w4.alloc (.cells #[.int .u64 (mt.floor : Int), .int .u64 (mt.cert : Int), .int .u64 (mt.at_ : Int), .int .u64 (mt.lease : Int)] 32) := ⟨_, rfl⟩
 have HK6 : Hid (∀ W', Below W6.heap.size W6 W' → BoxO W' 42 g0 [.pointer (some ⟨nb, 0, none⟩)] ∧ BoxO W' 47 (g0 + 1) [.int .i64 4, .int .i64 frm, .int .i64 ni, .int .u64 (mi : Int), .int .u64 (no : Int), .slice A n c] ∧ NdAt W' X S Y V nb ni now grace ∧ BoxO W' 32 w4.heap.size [.int .u64 (mt.floor : Int), .int .u64 (mt.cert : Int), .int .u64 (mt.at_ : Int), .int .u64 (mt.lease : Int)]) := Lib.hid (fun W' hb => by
  rw [hW6] at hb
  have q := HK.out W' (later_ HB6.out hb)
  exact ⟨q.1, q.2.1, q.2.2, HX6.out.below hb⟩)
 have HW6 := Lib.hid hW6
 have HAN := Lib.hid (fun W' (hb : Below W6.heap.size W6 W') B nn cc => (by
  obtain ⟨q1, q2, q3, _⟩ := HK6.out W' hb
  exact answer_any g0 (g0 + 1) nb frm ni 5 mi mt.cert B nn cc W' (q1.cell 0) (q3.box.cell 0) (q2.cell 1) (q2.cell 3) : Calls Tryz.prog 42 #[.int .i64 5, .int .u64 (mt.cert : Int), .slice B nn cc, .pointer (some ⟨g0, 0, none⟩), .pointer (some ⟨g0 + 1, 0, none⟩)] W' fun e w' => e = .returned (.slice (some ⟨W'.heap.size, 0, none⟩) 1 1) ∧ Below W'.heap.size W' w' ∧ Answ w' W'.heap.size 5 ni frm mi mt.cert B nn cc))
 have HSE := Lib.hid (fun W' (hb : Below W6.heap.size W6 W') => sseriesS_any (HK6.out W' hb).2.2.1.at_ (by have := hN.len; omega) (no : Int))
 clear x y z hW6
 go_wp2_with fail
 rw [← HW6.out]
 clear x0 y0 y1 y3 y4 y5 z0 z1
 refine wp_region_held_drew (S := fun w' => Below W6.heap.size W6 w') rfl (below_drew (Below.refl _ _)) (fun hSw => ?_)
 refine wpT (i := 0) (v := ?vhq0) ?hhq0 hSw ?khq0
 case hhq0 => (intro w hSw; (obtain ⟨x, y, z, q⟩ := HK6.out _ hSw; have x0 := x.cell 0; have y4 := y.cell 4; have z1 := z.box.cell 1; have q1 := q.cell 1; simp only [gE0, gE1] at x0 y4 z1 q1; clear x y z q); go_simp; try (with_reducible rfl))
 go_simp
 refine wpT (i := 1) (v := ?vhq1) ?hhq1 hSw ?khq1
 case hhq1 => (intro w hSw; (obtain ⟨x, y, z, q⟩ := HK6.out _ hSw; have x0 := x.cell 0; have y4 := y.cell 4; have z1 := z.box.cell 1; have q1 := q.cell 1; simp only [gE0, gE1] at x0 y4 z1 q1; clear x y z q); go_simp; try (with_reducible rfl))
 go_simp
 refine wpT (i := 2) (v := ?vhq2) ?hhq2 hSw ?khq2
 case hhq2 => (intro w hSw; (obtain ⟨x, y, z, q⟩ := HK6.out _ hSw; have x0 := x.cell 0; have y4 := y.cell 4; have z1 := z.box.cell 1; have q1 := q.cell 1; simp only [gE0, gE1] at x0 y4 z1 q1; clear x y z q); go_simp; try (with_reducible rfl))
 go_simp
 refine wpT (i := 3) (v := ?vhq3) ?hhq3 hSw ?khq3
 case hhq3 => (intro w hSw; (obtain ⟨x, y, z, q⟩ := HK6.out _ hSw; have x0 := x.cell 0; have y4 := y.cell 4; have z1 := z.box.cell 1; have q1 := q.cell 1; simp only [gE0, gE1] at x0 y4 z1 q1; clear x y z q); go_simp; try (with_reducible rfl))
 go_simp
 refine wpT (i := 4) (v := ?vhq4) ?hhq4 hSw ?khq4
 case hhq4 => (intro w hSw; (obtain ⟨x, y, z, q⟩ := HK6.out _ hSw; have x0 := x.cell 0; have y4 := y.cell 4; have z1 := z.box.cell 1; have q1 := q.cell 1; simp only [gE0, gE1] at x0 y4 z1 q1; clear x y z q); go_simp; try (with_reducible rfl))
 go_simp
 refine wpT (i := 5) (v := ?vhq5) ?hhq5 hSw ?khq5
 case hhq5 => (intro w hSw; (obtain ⟨x, y, z, q⟩ := HK6.out _ hSw; have x0 := x.cell 0; have y4 := y.cell 4; have z1 := z.box.cell 1; have q1 := q.cell 1; simp only [gE0, gE1] at x0 y4 z1 q1; clear x y z q); go_simp; try (with_reducible rfl))
 go_simp
 refine wpT (i := 6) (v := ?vhq6) ?hhq6 hSw ?khq6
 case hhq6 => (intro w hSw; (obtain ⟨x, y, z, q⟩ := HK6.out _ hSw; have x0 := x.cell 0; have y4 := y.cell 4; have z1 := z.box.cell 1; have q1 := q.cell 1; simp only [gE0, gE1] at x0 y4 z1 q1; clear x y z q); go_simp; try (with_reducible rfl))
 go_simp
 refine wpT (i := 7) (v := ?vhq7) ?hhq7 hSw ?khq7
 case hhq7 => (intro w hSw; (obtain ⟨x, y, z, q⟩ := HK6.out _ hSw; have x0 := x.cell 0; have y4 := y.cell 4; have z1 := z.box.cell 1; have q1 := q.cell 1; simp only [gE0, gE1] at x0 y4 z1 q1; clear x y z q); go_simp; try (with_reducible rfl))
 go_simp
 refine wpT (i := 8) (v := ?vhq8) ?hhq8 hSw ?khq8
 case hhq8 => (intro w hSw; (obtain ⟨x, y, z, q⟩ := HK6.out _ hSw; have x0 := x.cell 0; have y4 := y.cell 4; have z1 := z.box.cell 1; have q1 := q.cell 1; simp only [gE0, gE1] at x0 y4 z1 q1; clear x y z q); go_simp; try (with_reducible rfl))
 go_simp
 refine wpT (i := 9) (v := ?vhq9) ?hhq9 hSw ?khq9
 case hhq9 => (intro w hSw; (obtain ⟨x, y, z, q⟩ := HK6.out _ hSw; have x0 := x.cell 0; have y4 := y.cell 4; have z1 := z.box.cell 1; have q1 := q.cell 1; simp only [gE0, gE1] at x0 y4 z1 q1; clear x y z q); go_simp; try (with_reducible rfl))
 go_simp
 refine wpAnyH_ready (rs := [10]) (by kernel_rfl) (by simp) ?_
 refine AllReadyH.cons rfl (fun K hK => ?_) AllReadyH.nil
 go_simp
 with_reducible refine (HSE.out _ hSw).mono ?_
 rintro e w7 ⟨A7, k7, rfl, hk7, hi7, hb7⟩; clear hk7
 go_simp
 refine hK.out _ _ (later_ hSw hb7) (fun hSn => ?_)
 clear hK K hSw
 have hSw := hSn
 clear hSn
 go_simp
 refine wpAnyH_ready (rs := [11]) (by kernel_rfl) (by simp) ?_
 refine AllReadyH.cons rfl (fun K hK => ?_) AllReadyH.nil
 go_simp
 with_reducible refine (HAN.out _ hSw A7 k7 k7).mono ?_
 rintro e w8 ⟨rfl, hb8, ha8⟩
 go_simp
 refine hK.out _ _ (later_ hSw hb8) (fun hSn => ?_)
 clear hK K hSw
 have hSw := hSn
 clear hSn
 go_simp
 refine wpT (i := 12) (v := ?vhq12) ?hhq12 hSw ?khq12
 case hhq12 => (intro w hSw; (obtain ⟨x, y, z, q⟩ := HK6.out _ hSw; have x0 := x.cell 0; have y4 := y.cell 4; have z1 := z.box.cell 1; have q1 := q.cell 1; simp only [gE0, gE1] at x0 y4 z1 q1; clear x y z q); go_simp; try (with_reducible rfl))
 go_simp
 refine wpAnyH_done (by kernel_rfl) ?_ _
 have hb6 : Below w.heap.size w W6 := HB.out.trans ((by rw [HW6.out]; exact HB6.out : Below W.heap.size W W6).mono HB.out.size)
 have hz : HPost X Y w S V nb ni now grace frm mi (some (5, V.M.v.cert, V.st.filter fun a => a.s == (no : Int))) (.returned (.slice (some ⟨w7.heap.size, 0, none⟩) 1 1)) w8 := by
  have e2 : V.M.v.cert = mt.cert := by rw [HMT.out]; rfl
  rw [e2]
  have hb67 : Below w.heap.size w w7 := later_ hb6 (later_ (below_drew (Below.refl _ _)) hb7)
  exact HH.out.told hb67 hi7.row (fun a ha => Nat.le_trans hb6.size (hi7.low a ha)) hb8 ha8
 have HZ := Lib.hid hz
 clear hz hb6 hSw hb7 hi7 hb8 ha8 HAN HSE
 go_wp2
 go_ret
 exact HZ.out
end
section
open Go Go.RowKit Go.Lib Go.Shelf
variable {w w1 w2 : World} {X X1 X2 : Dw} {S S1 S2 : Sd} {Y Y1 Y2 : Yw} {V V1 V2 : Sv} {nb now grace : Nat} {ni : Int}
def St.seal (S : Sd) (V : Sv) (f : Nat) : Sd × Sv × Option (Int × Nat × List It) :=
 if f < V.M.v.floor then (S, V, some (3, V.M.v.floor, [])) else
 if f = V.M.v.floor then (S, V, some (7, f, upto V.st f)) else
 if (St.setMeta S V { St.meta_ V with floor := f }).2.2 = 0 then ((St.setMeta S V { St.meta_ V with floor := f }).1, (St.setMeta S V { St.meta_ V with floor := f }).2.1, some (7, f, upto V.st f)) else
 ((St.setMeta S V { St.meta_ V with floor := f }).1, (St.setMeta S V { St.meta_ V with floor := f }).2.1, none)
end
section
open Go
namespace Nd
structure NS (q : Int) (S : Sd) (V : Sv) (c d : Nat) : Prop where
 calm : Calm S
 quota : S.quota = q
 only : V.only = false
 nm : V.nm = St.kLog1
 log : ∃ t, cont S St.kLog1 = some t ∧ t.length ≤ c
 man : ∃ t, cont S (Mw.man 1) = some t ∧ t.length ≤ d
 small : Small S [St.kLog1, Mw.man 1, Mw.kCur] 70000
 sz : V.sz ≤ c
 ct : V.ct ≤ c
 mem : V.mem.length ≤ c
 tabs : V.tabs = []
 st : Stt V.st
 name : V.M.name = Mw.man 1
 br : V.M.broken = false
 ok : V.M.v.ok = true
 files : V.M.v.files = []
 count : V.M.count ≤ d
def v0 : Sv := ⟨{ St.first with name := Mw.man 1, count := 1 }, St.kLog1, 0, 0, [], [], [], false⟩
theorem born (q : Int) (h1 : 500000 ≤ q) (h2 : q ≤ 1099511627776) : ∃ S, St.create (Sd.new q) = (S, some v0, 0) ∧ NS q S v0 0 100 := by
 have hc := Calm.new q h2
 obtain ⟨d6, q1, q2, q3, q4⟩ := create_other (K := []) (B := 2100) hc ⟨fun s x hx => (by rw [Calm.cont_new] at hx; cases hx), fun s x hx => (by rw [Calm.cont_new] at hx; cases hx)⟩ (by simp) (fun s x hx => (by rw [Calm.cont_new] at hx; cases hx)) (Nat.le_refl _) (by simp [Sd.new]; omega)
 have n1 : St.kLog1 ≠ Mw.kTemp := by decide
 have n2 : St.kLog1 ≠ Mw.kCur := by decide
 have n3 : St.kLog1 ≠ Mw.man 1 := by decide +kernel
 have n4 : Mw.man 1 ≠ Mw.kTemp := by decide +kernel
 have n5 : Mw.man 1 ≠ Mw.kCur := by decide +kernel
 have hl1 : St.first.v.whole.rec_.length ≤ 100 := by decide +kernel
 have hl2 : (Mw.headB 1).length ≤ 70000 := by decide +kernel
 refine ⟨d6, q1, q2, by rw [q3]; simp [Sd.new]; omega, rfl, rfl, ⟨[], ?_, Nat.zero_le _⟩, ⟨St.first.v.whole.rec_, ?_, hl1⟩, ⟨fun s x hx => ?_, fun s x hx => ?_⟩, Nat.zero_le _, Nat.zero_le _, Nat.zero_le _, rfl, Stt.nil, rfl, rfl, by decide +kernel, rfl, by decide⟩
 ·rw [q4]
  unfold upd
  rw [if_neg n1, if_neg n2, if_neg n1, if_neg n3, if_pos rfl]
 ·rw [q4]
  unfold upd
  rw [if_neg n4, if_neg n5, if_neg n4, if_pos rfl]
 all_goals
  rw [q4, Calm.cont_new] at hx
  unfold upd at hx
  split at hx
  ·cases hx
  ·split at hx
   ·injection hx with hx
    subst_vars
    first | simp | exact hl2
   ·split at hx
    ·injection hx with hx
     subst_vars
     first | simp | omega
    ·split at hx
     ·injection hx with hx
      subst_vars
      simp
     ·cases hx
variable {q : Int} {S : Sd} {V : Sv} {c d : Nat}
theorem NS.nrm (h : NS q S V c d) (hc : c ≤ 100000) (hd : d ≤ 100000) (hl : V.st.length ≤ 1500) : Nrm V := ⟨h.tabs, h.st, hl, by have := h.sz; omega, by have := h.ct; omega, by have := h.mem; omega, by rw [h.nm]; decide, by rw [h.files]; simp, by have := h.count; omega, by rw [h.name]; decide +kernel⟩
theorem NS.four (h : NS q S V c d) : V.M.v.floor ≤ 281474976710656 ∧ V.M.v.cert ≤ 281474976710656 ∧ V.M.v.at_ ≤ 281474976710656 ∧ V.M.v.lease ≤ 281474976710656 := by
 have := h.ok
 simp only [Vw.ok, four4, Bool.and_eq_true, decide_eq_true_eq] at this
 omega
theorem NS.sync (h : NS q S V c d) : ∃ S', St.sync S V = (S', V, 0) ∧ NS q S' V c d := by
 obtain ⟨t, ht, _⟩ := h.log
 obtain ⟨a1, a2, a3, a4⟩ := h.calm.sync (s := St.kLog1) (by decide +kernel) ht
 refine ⟨(S.sync St.kLog1).1, ?_, ⟨a2, by rw [a4, h.quota], h.only, h.nm, by rw [a3]; exact h.log, by rw [a3]; exact h.man, ⟨by rw [a3]; exact h.small.names, by rw [a3]; exact h.small.len⟩, h.sz, h.ct, h.mem, h.tabs, h.st, h.name, h.br, h.ok, h.files, h.count⟩⟩
 unfold St.sync
 rw [if_neg (by rw [h.only]; simp), h.nm, if_pos a1]
theorem NS.apply (h : NS q S V c d) (hq : 500000 ≤ q) (hc : c + 2000 ≤ 70000) {l : List It} (h0 : l ≠ []) (ha : l.all It.ok = true) (hl : l.length ≤ 60) (hj : (joins V.st l).length ≤ 1500) :
  ∃ S' V', St.apply S V l = (S', V', 0) ∧ NS q S' V' (c + (22 + 32 * l.length)) d ∧ V'.st = joins V.st l ∧ V'.M = V.M := by
 have hb := Lg.batch_len l
 obtain ⟨t, ht, hc0⟩ := h.log
 obtain ⟨t2, ht2, hd0⟩ := h.man
 obtain ⟨ln, lu⟩ := h.calm.length_names h.small
 have n3 : Mw.man 1 ≠ St.kLog1 := by decide +kernel
 obtain ⟨a1, a2, a3, a4⟩ := h.calm.append (s := St.kLog1) (by decide +kernel) ht (Lg.batch l) (by omega) (by have := h.quota; simp at lu; omega)
 refine ⟨_, { V with sz := V.sz + (Lg.batch l).length, ct := V.ct + 1, mem := l.foldl wput V.mem, st := joins V.st l }, ?_, ⟨a2, by rw [a4, h.quota], h.only, h.nm, ⟨t ++ Lg.batch l, ?_, ?_⟩, ⟨t2, ?_, hd0⟩, ⟨fun s x hx => ?_, fun s x hx => ?_⟩, ?_, ?_, ?_, h.tabs, (joins_stt l h.st).1, h.name, h.br, h.ok, h.files, h.count⟩, rfl, rfl⟩
 ·unfold St.apply
  rw [if_neg (by rw [h.only]; simp), if_neg (by simp [h0, ha]), if_neg (by omega), if_neg (by omega), h.nm]
  simp only [a1]
  simp
 ·rw [a3, upd, if_pos rfl]
 ·rw [List.length_append]
  omega
 ·rw [a3, upd, if_neg n3]
  exact ht2
 ·rw [a3, upd] at hx
  split at hx
  ·subst_vars; simp
  ·exact h.small.names s x hx
 ·rw [a3, upd] at hx
  split at hx
  ·injection hx with hx
   rw [← hx, List.length_append]
   omega
  ·exact h.small.len s x hx
 ·have := h.sz
  simp only
  omega
 ·have := h.ct
  simp only
  omega
 ·have := wputs_len l V.mem
  have := h.mem
  simp only
  omega
theorem NS.mono {c' d' : Nat} (h : NS q S V c d) (hc : c ≤ c') (hd : d ≤ d') : NS q S V c' d' := ⟨h.calm, h.quota, h.only, h.nm, let ⟨t, a, b⟩ := h.log; ⟨t, a, by omega⟩, let ⟨t, a, b⟩ := h.man; ⟨t, a, by omega⟩, h.small, by have := h.sz; omega, by have := h.ct; omega, by have := h.mem; omega, h.tabs, h.st, h.name, h.br, h.ok, h.files, by have := h.count; omega⟩
theorem NS.last (h : NS q S V c d) (hq : 500000 ≤ q) (hc : c + 2000 ≤ 70000) {l : List It} (ha : l.all It.ok = true) (hl : l.length ≤ 60) (hj : (joins V.st l).length ≤ 1500) :
  ∃ S' V', St.last S V l = (S', V', true) ∧ NS q S' V' (c + (22 + 32 * l.length)) d ∧ V'.st = joins V.st l ∧ V'.M = V.M := by
 by_cases he : joins V.st l = V.st
 ·obtain ⟨S', h1, h2⟩ := h.sync
  refine ⟨S', V, ?_, h2.mono (by omega) (Nat.le_refl _), he.symm, rfl⟩
  unfold St.last
  rw [if_pos he, h1]
  rfl
 ·have h0 : l ≠ [] := fun e => he (by rw [e]; rfl)
  obtain ⟨S1, V1, h1, h2, h3, h4⟩ := h.apply hq hc h0 ha hl hj
  obtain ⟨S2, h5, h6⟩ := h2.sync
  refine ⟨S2, V1, ?_, h6, h3, h4⟩
  unfold St.last
  rw [if_neg he, h1]
  simp only [ne_eq, not_true_eq_false, if_false, h5]
  rfl
theorem NS.put (h : NS q S V c d) (hq : 500000 ≤ q) (hc : c + 2000 ≤ 70000) {l : List It} (ha : l.all It.ok = true) (hl : l.length ≤ 60) (hj : (joins V.st l).length ≤ 1500) (hf : ∀ x ∈ l, V.M.v.floor < x.v) :
  ∃ S' V', St.put S V l = (S', V', some (2, 0, [])) ∧ NS q S' V' (c + (22 + 32 * l.length)) d ∧ V'.st = joins V.st l ∧ V'.M = V.M := by
 obtain ⟨S1, V1, h1, h2, h3, h4⟩ := h.last hq hc ha hl hj
 refine ⟨S1, V1, ?_, h2, h3, h4⟩
 unfold St.put
 rw [if_neg (by
  rw [List.any_eq_true]
  rintro ⟨x, hx, h⟩
  have := hf x hx
  simp at h
  omega), h1, if_pos rfl]
theorem app_floor {v : Vw} (hv : v.ok = true) {f : Nat} (hf : f ≠ 0) (hf2 : f ≤ 281474976710656) : v.app ⟨[], [], 0, f, v.cert, v.at_, v.lease⟩ = some { v with floor := f } := by
 have ho : ({ v with floor := f } : Vw).ok = true := by
  simp only [Vw.ok, four4, Bool.and_eq_true, decide_eq_true_eq] at hv ⊢
  refine ⟨⟨⟨hv.1.1.1, ?_⟩, hv.1.2⟩, hv.2⟩
  omega
 have hz : ∀ a : Nat, orElse a a = a := fun a => by unfold orElse; split <;> rfl
 have hz1 : orElse f v.floor = f := by unfold orElse; rw [if_neg hf]
 unfold Vw.app dropAll
 simp only [hz, hz1, if_true, List.append_nil]
 rw [if_pos ho]
theorem NS.raise (h : NS q S V c d) (hq : 500000 ≤ q) (hd : d + 2012 ≤ 70000) {f : Nat} (hf : f ≠ 0) (hf2 : f ≤ 281474976710656) :
  ∃ S' V', St.setMeta S V { St.meta_ V with floor := f } = (S', V', 0) ∧ NS q S' V' c (d + 2012) ∧ V'.st = V.st ∧ V'.M.v = { V.M.v with floor := f } := by
 have h4 := h.four
 have he : (⟨[], [], 0, f, V.M.v.cert, V.M.v.at_, V.M.v.lease⟩ : Ed).may = true := by
  simp [Ed.may, four4]
  omega
 have hr := Ed.rec_len he
 obtain ⟨t, ht, hc0⟩ := h.log
 obtain ⟨t2, ht2, hd0⟩ := h.man
 obtain ⟨ln, lu⟩ := h.calm.length_names h.small
 have n3 : St.kLog1 ≠ Mw.man 1 := by decide +kernel
 have hnm : Sd.named (Mw.man 1) = true := by decide +kernel
 obtain ⟨a1, a2, a3, a4⟩ := h.calm.append (s := Mw.man 1) hnm ht2 (Ed.rec_ ⟨[], [], 0, f, V.M.v.cert, V.M.v.at_, V.M.v.lease⟩) (by omega) (by have := h.quota; simp at lu; omega)
 obtain ⟨b1, b2, b3, b4⟩ := a2.sync (s := Mw.man 1) hnm (x := t2 ++ Ed.rec_ ⟨[], [], 0, f, V.M.v.cert, V.M.v.at_, V.M.v.lease⟩) (by rw [a3, upd, if_pos rfl])
 have hsv : Gw.save S V.M ⟨[], [], 0, f, V.M.v.cert, V.M.v.at_, V.M.v.lease⟩ = (((S.append (Mw.man 1) (Ed.rec_ ⟨[], [], 0, f, V.M.v.cert, V.M.v.at_, V.M.v.lease⟩)).1.sync (Mw.man 1)).1, { V.M with count := V.M.count + 1, v := { V.M.v with floor := f } }, 0) := by
  unfold Gw.save
  rw [if_neg (by rw [h.br]; simp), if_neg (by rw [he]; simp), app_floor h.ok hf hf2]
  simp only
  unfold Gw.put
  rw [h.name, if_neg (by simp [a1]), if_neg (by simp [b1])]
 have ho : ({ V.M.v with floor := f } : Vw).ok = true := by
  have hv := h.ok
  simp only [Vw.ok, four4, Bool.and_eq_true, decide_eq_true_eq] at hv ⊢
  refine ⟨⟨⟨hv.1.1.1, ?_⟩, hv.1.2⟩, hv.2⟩
  omega
 refine ⟨((S.append (Mw.man 1) (Ed.rec_ ⟨[], [], 0, f, V.M.v.cert, V.M.v.at_, V.M.v.lease⟩)).1.sync (Mw.man 1)).1, { V with M := { V.M with count := V.M.count + 1, v := { V.M.v with floor := f } } }, ?_, ⟨b2, by rw [b4, a4, h.quota], h.only, h.nm, ⟨t, ?_, hc0⟩, ⟨t2 ++ Ed.rec_ ⟨[], [], 0, f, V.M.v.cert, V.M.v.at_, V.M.v.lease⟩, ?_, ?_⟩, ⟨fun s x hx => ?_, fun s x hx => ?_⟩, h.sz, h.ct, h.mem, h.tabs, h.st, h.name, h.br, ho, h.files, ?_⟩, rfl, rfl⟩
 ·unfold St.setMeta St.saved
  rw [if_neg (by rw [h.only]; simp)]
  simp only [St.meta_]
  rw [hsv]
  simp only [h.br, h.only, Bool.or_false]
 ·rw [b3, a3, upd, if_neg n3]
  exact ht
 ·rw [b3, a3, upd, if_pos rfl]
 ·rw [List.length_append]
  omega
 ·rw [b3, a3, upd] at hx
  split at hx
  ·subst_vars; simp
  ·exact h.small.names s x hx
 ·rw [b3, a3, upd] at hx
  split at hx
  ·injection hx with hx
   rw [← hx, List.length_append]
   omega
  ·exact h.small.len s x hx
 ·have := h.count
  simp only
  omega
end Nd
end
section
open Go Go.RowKit Go.Lib Go.Shelf
variable {w w1 w2 : World} {X X1 X2 : Dw} {S S1 S2 : Sd} {Y Y1 Y2 : Yw} {V V1 V2 : Sv} {nb now grace : Nat} {ni : Int}
def NdBorn (X : Dw) (w : World) (S' : Sd) (V' : Sv) (ni : Int) (grace : Nat) (e : Ending) (w' : World) : Prop := ∃ nb X' Y, e = .returned (.tuple #[.pointer (some ⟨nb, 0, none⟩), .int .i64 0]) ∧ X'.d = X.d ∧ NdAt w' X' S' Y V' nb ni V'.M.v.at_ grace ∧ Chg X.foot w w' ∧ (∀ g ∈ XY X' Y, g ∈ X.foot ∨ w.heap.size ≤ g) ∧ w.heap.size ≤ nb
theorem nopen_any (h : Dm w X S) (hd : S.dead = false) (hno : ∀ s ∈ S.list, St.isOwn s = false) (hld : S.load ≤ 100000000000) (S' : Sd) (V' : Sv) (hR : St.create S = (S', some V', 0)) (hfl : V'.M.v.files.length ≤ 10000) (hat : V'.M.v.at_ ≤ 1099511627776) (ni : Int) (grace : Nat) (hni : 0 ≤ ni ∧ ni < 7) (hgr : grace ≤ 1099511627776) :
  Calls Tryz.prog 13 #[.int .i64 ni, .pointer (some ⟨X.d, 0, none⟩), .int .u64 (grace : Int)] w (NdBorn X w S' V' ni grace) := by
 have HOP := Lib.hid (sopen_new h hd hno hld S' V' hR)
 have e1 : (ni < (0 : Int)) = False := eq_false (by omega)
 have e2 : ((7 : Int) ≤ ni) = False := eq_false (by omega)
 have e3 : ((1099511627776 : Int) < (grace : Int)) = False := eq_false (by omega)
 obtain ⟨a, ha⟩ : ∃ a, a = V'.M.v.at_ := ⟨_, rfl⟩
 have hfd : ∀ (x1 x2 x3 x4 : Int) W', (Instr.field 32 (.agg #[.int .u64 x1, .int .u64 x2, .int .u64 x3, .int .u64 x4]) 2).run Tryz.prog W' = .ok (.int .u64 x3) W' := fun _ _ _ _ _ => rfl
 have hmin : min (a : Int) 1099511627776 = (a : Int) := by omega
 have HA := Lib.hid (And.intro ha hfl)
 clear h hd hno hld hR hat ha hfl
 go_enter Tryz.func13, Tryz.ntmps13
 go_wp2_with fail
 with_reducible refine HOP.out.mono ?_
 rintro e w1 ⟨X1, Y, rfl, e4, h1, c1, f1⟩
 have hme := smeta_any h1 HA.out.2
 obtain ⟨mt, hmt⟩ : ∃ mt, mt = St.meta_ V' := ⟨_, rfl⟩
 rw [← hmt] at hme
 have hma : mt.at_ = a := by rw [HA.out.1, hmt]; rfl
 obtain ⟨m1, m2, m3, m4⟩ := mt
 simp only at hma
 subst hma
 unfold Mt.val at hme
 simp only at hme
 have HME := Lib.hid hme
 have H1 := Lib.hid (And.intro h1 (And.intro e4 (And.intro c1 f1)))
 clear hme h1 e4 c1 f1 hmt
 go_wp2_with fail
 with_reducible refine HME.out.mono ?_
 rintro e w2 ⟨rfl, hb2⟩
 have hb3 := (Below.refl w2.heap.size w2).alloc (Nat.le_refl _) (.cells #[.int .i64 ni, .pointer (some ⟨Y.s, 0, none⟩), .int .u64 (m3 : Int), .int .u64 (grace : Int)] 100)
 have hx := BoxO.new w2 #[.int .i64 ni, .pointer (some ⟨Y.s, 0, none⟩), .int .u64 (m3 : Int), .int .u64 (grace : Int)] 100
 have HZ : Hid (NdBorn X w S' V' ni grace (.returned (.tuple #[.pointer (some ⟨w2.heap.size, 0, none⟩), .int .i64 0])) (w2.alloc (.cells #[.int .i64 ni, .pointer (some ⟨Y.s, 0, none⟩), .int .u64 (m3 : Int), .int .u64 (grace : Int)] 100))) := Lib.hid (by
  obtain ⟨h1, e4, c1, f1⟩ := H1.out
  have hlt := h1.lt
  have hs := hb2.size
  rw [HA.out.1] at hx ⊢
  exact ⟨w2.heap.size, X1, Y, rfl, e4, ⟨(h1.below hb2).below (by rw [← HA.out.1]; exact hb3), hx, fun hm => by have := hlt _ hm; omega⟩, c1.trans (Chg.of_below (later_ hb2 (by rw [← HA.out.1]; exact hb3)) X.foot) (fun g hg => .inl hg), f1, Nat.le_trans c1.size hs⟩)
 clear hb2 hb3 hx HME
 go_wp2
 go_ret2
 exact HZ.out
theorem nstate_any (h : NdAt w X S Y V nb ni now grace) (hn : V.st.length ≤ 1000000) :
  Calls Tryz.prog 20 #[.pointer (some ⟨nb, 0, none⟩)] w fun e w' => ∃ A' c', e = .returned (.slice A' Y.A.n c') ∧ w'.ownsRow w.heap.size 27 5 (.slice A' Y.A.n c') Y.A.n (itc V.st) ∧ Below w.heap.size w w' := by
 have k1 := h.box.cell 1
 simp only [gE0, gE1] at k1
 have HS := Lib.hid (sstate_any h.at_ hn)
 clear h
 go_enter Tryz.func20, Tryz.ntmps20
 go_wp2_with fail
 with_reducible refine HS.out.mono ?_
 rintro e w1 ⟨A', c', rfl, h1, h2⟩
 have H1 := Lib.hid (And.intro h1 h2)
 clear h1 h2
 go_wp2
 go_ret
 exact ⟨_, _, rfl, H1.out⟩
theorem nnow_any (h : NdAt w X S Y V nb ni now grace) :
  Calls Tryz.prog 54 #[.pointer (some ⟨nb, 0, none⟩)] w fun e w' => e = .returned (.int .u64 (now : Int)) ∧ w' = w := by
 have k1 := h.box.cell 2
 simp only [gE0, gE1] at k1
 clear h
 go_enter Tryz.func54, Tryz.ntmps54
 go_wp2
 go_ret
 exact ⟨rfl, rfl⟩
end
section
open Go Go.RowKit Go.Lib
theorem rrises_any (A : Option Addr) (n c : Nat) (l : List It) (w : World) (hn : n ≤ 1000000) (hS : Stt l) (hr : Row w.heap.size w A n 5 (itc l)) :
  Calls Tryz.prog 114 #[.slice A n c] w fun e w' => e = .returned (.bool true) ∧ Below w.heap.size w w' := by
 have hnn := hr.itlen
 have HS := Lib.hid hS
 clear hS
 go_enter Tryz.func114, Tryz.ntmps114
 go_wp2
 go_loopw [3] (fun i wr => ∃ k : Nat, k ≤ n ∧ i = .int .i64 (k : Int) ∧ Below w.heap.size w wr) (fun i _ => n - (intOf i).toNat)
 case atStart => exact ⟨0, Nat.zero_le _, rfl, Below.refl _ _⟩
 case round =>
  obtain ⟨k, hk, rfl, hbl⟩ := hrel
  by_cases hlt : k < n
  ·obtain ⟨a, hl, rfl, hbk, hd⟩ := (hr.below hbl).it hlt
   have hko := HS.out.ok _ (List.getElem_mem hl)
   have hok := fun W => rok_any l[k] W
   simp only [hko] at hok
   have hless : ∀ (j : Nat) (hj : j < l.length), j < k → It.less l[j] l[k] = true := fun j hj hjk => List.pairwise_iff_getElem.1 HS.out.rises j k hj hl hjk
   generalize hxk : l[k] = x at *
   have hkx : ∀ w', Below wr.heap.size wr w' → w'.cell? (a.add (k * 5)) = some (.int .i64 x.s) ∧ w'.cell? ⟨(a.add (k * 5)).block, (a.add (k * 5)).off + 1, none⟩ = some (.int .i64 x.k) ∧ w'.cell? ⟨(a.add (k * 5)).block, (a.add (k * 5)).off + 2, none⟩ = some (.int .u64 (x.t : Int)) ∧ w'.cell? ⟨(a.add (k * 5)).block, (a.add (k * 5)).off + 3, none⟩ = some (.int .u64 (x.v : Int)) ∧ w'.cell? ⟨(a.add (k * 5)).block, (a.add (k * 5)).off + 4, none⟩ = some (.int .i64 x.x) := fun w' hb => by
    have h1 := hd.below (B := wr.heap.size) (w' := w') (Nat.lt_of_lt_of_le hbk hbl.size) hb
    exact ⟨h1.c0, h1.c1, h1.c2, h1.c3, h1.c4⟩
   unfold It.val at hok
   have HOK := Lib.hid hok
   have hkn : (k : Int) < (n : Int) := by omega
   have hwk : IntKind.i64.wrap (k : Int) = (k : Int) := IntWalk.i64_in _ (by omega)
   rcases Nat.eq_zero_or_pos k with h0 | h0
   ·have hk0 : ((0 : Int) < (k : Int)) = False := eq_false (by omega)
    have hk1 : (0 < k) = False := eq_false (by omega)
    have KC := Lib.hid hkx
    clear h0 hkx hok hko hless hxk hd
    go_wp2_with fail
    refine wp_region_held_drew (S := fun w' => Below wr.heap.size wr w') rfl (below_drew (Below.refl _ _)) (fun hSw => ?_)
    refine wpT (i := 0) (v := ?vka0) ?hka0 hSw ?kka0
    case hka0 => (intro w hSw; (obtain ⟨x0, x1, x2, x3, x4⟩ := KC.out w hSw); go_simp; try (with_reducible rfl))
    go_simp
    refine wpT (i := 1) (v := ?vka1) ?hka1 hSw ?kka1
    case hka1 => (intro w hSw; (obtain ⟨x0, x1, x2, x3, x4⟩ := KC.out w hSw); go_simp; try (with_reducible rfl))
    go_simp
    refine wpT (i := 2) (v := ?vka2) ?hka2 hSw ?kka2
    case hka2 => (intro w hSw; (obtain ⟨x0, x1, x2, x3, x4⟩ := KC.out w hSw); go_simp; try (with_reducible rfl))
    go_simp
    refine wpT (i := 3) (v := ?vka3) ?hka3 hSw ?kka3
    case hka3 => (intro w hSw; (obtain ⟨x0, x1, x2, x3, x4⟩ := KC.out w hSw); go_simp; try (with_reducible rfl))
    go_simp
    refine wpAnyH_ready (rs := [4]) (by kernel_rfl) (by simp) ?_
    refine AllReadyH.cons rfl (fun K hK => ?_) AllReadyH.nil
    go_simp
    with_reducible refine (HOK.out _).mono ?_
    rintro e w1 ⟨rfl, hb1⟩
    go_simp
    refine hK.out _ _ (hSw.trans (hb1.mono hSw.size)) (fun hSn => ?_)
    clear hK K hSw
    have hSw := hSn
    clear hSn
    go_simp
    refine wpT (i := 5) (v := ?vka5) ?hka5 hSw ?kka5
    case hka5 => (intro w hSw; (obtain ⟨x0, x1, x2, x3, x4⟩ := KC.out w hSw); go_simp; try (with_reducible rfl))
    go_simp
    refine wpT (i := 6) (v := ?vka6) ?hka6 hSw ?kka6
    case hka6 => (intro w hSw; (obtain ⟨x0, x1, x2, x3, x4⟩ := KC.out w hSw); go_simp; try (with_reducible rfl))
    go_simp
    refine wpT (i := 7) (v := ?vka7) ?hka7 hSw ?kka7
    case hka7 => (intro w hSw; (obtain ⟨x0, x1, x2, x3, x4⟩ := KC.out w hSw); go_simp; try (with_reducible rfl))
    go_simp
    refine wpT (i := 8) (v := ?vka8) ?hka8 hSw ?kka8
    case hka8 => (intro w hSw; (obtain ⟨x0, x1, x2, x3, x4⟩ := KC.out w hSw); go_simp; try (with_reducible rfl))
    go_simp
    refine wpT (i := 9) (v := ?vka9) ?hka9 hSw ?kka9
    case hka9 => (intro w hSw; (obtain ⟨x0, x1, x2, x3, x4⟩ := KC.out w hSw); go_simp; try (with_reducible rfl))
    go_simp
    refine wpT0 (i := 10) hSw ?_
    go_simp
    refine wpT0 (i := 11) hSw ?_
    go_simp
    refine wpT0 (i := 12) hSw ?_
    go_simp
    refine wpT0 (i := 13) hSw ?_
    go_simp
    refine wpT0 (i := 14) hSw ?_
    go_simp
    refine wpT0 (i := 15) hSw ?_
    go_simp
    refine wpT0 (i := 16) hSw ?_
    go_simp
    refine wpT0 (i := 17) hSw ?_
    go_simp
    refine wpT0 (i := 18) hSw ?_
    go_simp
    refine wpT0 (i := 19) hSw ?_
    go_simp
    refine wpT0 (i := 20) hSw ?_
    go_simp
    refine wpT (i := 21) (v := ?vka21) ?hka21 hSw ?kka21
    case hka21 => (intro w hSw; (obtain ⟨x0, x1, x2, x3, x4⟩ := KC.out w hSw); go_simp; try (with_reducible rfl))
    go_simp
    refine wpT (i := 22) (v := ?vka22) ?hka22 hSw ?kka22
    case hka22 => (intro w hSw; (obtain ⟨x0, x1, x2, x3, x4⟩ := KC.out w hSw); go_simp; try (with_reducible rfl))
    go_simp
    refine wpAnyH_done (by kernel_rfl) ?_ _
    have hby := hbl.trans (hSw.mono hbl.size)
    clear hSw KC HOK
    go_wp2
    go_roundw
    case rel => exact ⟨k + 1, by omega, by go_num, hby⟩
    case measure => simp [intOf]; omega
   ·obtain ⟨j, hj⟩ : ∃ j, k = j + 1 := ⟨k - 1, by omega⟩
    obtain ⟨a2, hl2, ea, _, hd2⟩ := (hr.below hbl).it (k := j) (by omega)
    injection ea with ea
    subst ea
    have hls := fun W => rless_any l[j] x W
    rw [hless j hl2 (by omega)] at hls
    generalize l[j] = y at *
    unfold It.val at hls
    have hkc : ∀ w', Below wr.heap.size wr w' → (w'.cell? (a.add (k * 5)) = some (.int .i64 x.s) ∧ w'.cell? ⟨(a.add (k * 5)).block, (a.add (k * 5)).off + 1, none⟩ = some (.int .i64 x.k) ∧ w'.cell? ⟨(a.add (k * 5)).block, (a.add (k * 5)).off + 2, none⟩ = some (.int .u64 (x.t : Int)) ∧ w'.cell? ⟨(a.add (k * 5)).block, (a.add (k * 5)).off + 3, none⟩ = some (.int .u64 (x.v : Int)) ∧ w'.cell? ⟨(a.add (k * 5)).block, (a.add (k * 5)).off + 4, none⟩ = some (.int .i64 x.x)) ∧ w'.cell? (a.add (j * 5)) = some (.int .i64 y.s) ∧ w'.cell? ⟨(a.add (j * 5)).block, (a.add (j * 5)).off + 1, none⟩ = some (.int .i64 y.k) ∧ w'.cell? ⟨(a.add (j * 5)).block, (a.add (j * 5)).off + 2, none⟩ = some (.int .u64 (y.t : Int)) ∧ w'.cell? ⟨(a.add (j * 5)).block, (a.add (j * 5)).off + 3, none⟩ = some (.int .u64 (y.v : Int)) ∧ w'.cell? ⟨(a.add (j * 5)).block, (a.add (j * 5)).off + 4, none⟩ = some (.int .i64 y.x) := fun w' hb => by
     have h2 := hd2.below (B := wr.heap.size) (w' := w') (Nat.lt_of_lt_of_le hbk hbl.size) hb
     exact ⟨hkx w' hb, h2.c0, h2.c1, h2.c2, h2.c3, h2.c4⟩
    have hk0 : (0 : Int) < (k : Int) := by omega
    have hk1 : 0 < k := h0
    have hkj : (k : Int) - 1 = (j : Int) := by omega
    have hwj : IntKind.i64.wrap (j : Int) = (j : Int) := IntWalk.i64_in _ (by omega)
    have hw1 : IntKind.i64.wrap ((k : Int) - 1) = (j : Int) := by rw [hkj]; exact hwj
    have hjn : (j : Int) < (n : Int) := by omega
    have KC := Lib.hid hkc
    have HLS := Lib.hid hls
    clear hkx hok hko hless hxk hd hkc hls hd2 hj h0
    go_wp2_with fail
    refine wp_region_held_drew (S := fun w' => Below wr.heap.size wr w') rfl (below_drew (Below.refl _ _)) (fun hSw => ?_)
    refine wpT (i := 0) (v := ?vkb0) ?hkb0 hSw ?kkb0
    case hkb0 => (intro w hSw; (obtain ⟨⟨x0, x1, x2, x3, x4⟩, y0, y1, y2, y3, y4⟩ := KC.out w hSw); go_simp; try (with_reducible rfl))
    go_simp
    refine wpT (i := 1) (v := ?vkb1) ?hkb1 hSw ?kkb1
    case hkb1 => (intro w hSw; (obtain ⟨⟨x0, x1, x2, x3, x4⟩, y0, y1, y2, y3, y4⟩ := KC.out w hSw); go_simp; try (with_reducible rfl))
    go_simp
    refine wpT (i := 2) (v := ?vkb2) ?hkb2 hSw ?kkb2
    case hkb2 => (intro w hSw; (obtain ⟨⟨x0, x1, x2, x3, x4⟩, y0, y1, y2, y3, y4⟩ := KC.out w hSw); go_simp; try (with_reducible rfl))
    go_simp
    refine wpT (i := 3) (v := ?vkb3) ?hkb3 hSw ?kkb3
    case hkb3 => (intro w hSw; (obtain ⟨⟨x0, x1, x2, x3, x4⟩, y0, y1, y2, y3, y4⟩ := KC.out w hSw); go_simp; try (with_reducible rfl))
    go_simp
    refine wpAnyH_ready (rs := [4]) (by kernel_rfl) (by simp) ?_
    refine AllReadyH.cons rfl (fun K hK => ?_) AllReadyH.nil
    go_simp
    with_reducible refine (HOK.out _).mono ?_
    rintro e w1 ⟨rfl, hb1⟩
    go_simp
    refine hK.out _ _ (hSw.trans (hb1.mono hSw.size)) (fun hSn => ?_)
    clear hK K hSw
    have hSw := hSn
    clear hSn
    go_simp
    refine wpT (i := 5) (v := ?vkb5) ?hkb5 hSw ?kkb5
    case hkb5 => (intro w hSw; (obtain ⟨⟨x0, x1, x2, x3, x4⟩, y0, y1, y2, y3, y4⟩ := KC.out w hSw); go_simp; try (with_reducible rfl))
    go_simp
    refine wpT (i := 6) (v := ?vkb6) ?hkb6 hSw ?kkb6
    case hkb6 => (intro w hSw; (obtain ⟨⟨x0, x1, x2, x3, x4⟩, y0, y1, y2, y3, y4⟩ := KC.out w hSw); go_simp; try (with_reducible rfl))
    go_simp
    refine wpT (i := 7) (v := ?vkb7) ?hkb7 hSw ?kkb7
    case hkb7 => (intro w hSw; (obtain ⟨⟨x0, x1, x2, x3, x4⟩, y0, y1, y2, y3, y4⟩ := KC.out w hSw); go_simp; try (with_reducible rfl))
    go_simp
    refine wpT (i := 8) (v := ?vkb8) ?hkb8 hSw ?kkb8
    case hkb8 => (intro w hSw; (obtain ⟨⟨x0, x1, x2, x3, x4⟩, y0, y1, y2, y3, y4⟩ := KC.out w hSw); go_simp; try (with_reducible rfl))
    go_simp
    refine wpT (i := 9) (v := ?vkb9) ?hkb9 hSw ?kkb9
    case hkb9 => (intro w hSw; (obtain ⟨⟨x0, x1, x2, x3, x4⟩, y0, y1, y2, y3, y4⟩ := KC.out w hSw); go_simp; try (with_reducible rfl))
    go_simp
    refine wpT (i := 10) (v := ?vkb10) ?hkb10 hSw ?kkb10
    case hkb10 => (intro w hSw; (obtain ⟨⟨x0, x1, x2, x3, x4⟩, y0, y1, y2, y3, y4⟩ := KC.out w hSw); go_simp; try (with_reducible rfl))
    go_simp
    refine wpT (i := 11) (v := ?vkb11) ?hkb11 hSw ?kkb11
    case hkb11 => (intro w hSw; (obtain ⟨⟨x0, x1, x2, x3, x4⟩, y0, y1, y2, y3, y4⟩ := KC.out w hSw); go_simp; try (with_reducible rfl))
    go_simp
    refine wpT (i := 12) (v := ?vkb12) ?hkb12 hSw ?kkb12
    case hkb12 => (intro w hSw; (obtain ⟨⟨x0, x1, x2, x3, x4⟩, y0, y1, y2, y3, y4⟩ := KC.out w hSw); go_simp; try (with_reducible rfl))
    go_simp
    refine wpT (i := 13) (v := ?vkb13) ?hkb13 hSw ?kkb13
    case hkb13 => (intro w hSw; (obtain ⟨⟨x0, x1, x2, x3, x4⟩, y0, y1, y2, y3, y4⟩ := KC.out w hSw); go_simp; try (with_reducible rfl))
    go_simp
    refine wpT (i := 14) (v := ?vkb14) ?hkb14 hSw ?kkb14
    case hkb14 => (intro w hSw; (obtain ⟨⟨x0, x1, x2, x3, x4⟩, y0, y1, y2, y3, y4⟩ := KC.out w hSw); go_simp; try (with_reducible rfl))
    go_simp
    refine wpT (i := 15) (v := ?vkb15) ?hkb15 hSw ?kkb15
    case hkb15 => (intro w hSw; (obtain ⟨⟨x0, x1, x2, x3, x4⟩, y0, y1, y2, y3, y4⟩ := KC.out w hSw); go_simp; try (with_reducible rfl))
    go_simp
    refine wpT (i := 16) (v := ?vkb16) ?hkb16 hSw ?kkb16
    case hkb16 => (intro w hSw; (obtain ⟨⟨x0, x1, x2, x3, x4⟩, y0, y1, y2, y3, y4⟩ := KC.out w hSw); go_simp; try (with_reducible rfl))
    go_simp
    refine wpT (i := 17) (v := ?vkb17) ?hkb17 hSw ?kkb17
    case hkb17 => (intro w hSw; (obtain ⟨⟨x0, x1, x2, x3, x4⟩, y0, y1, y2, y3, y4⟩ := KC.out w hSw); go_simp; try (with_reducible rfl))
    go_simp
    refine wpT (i := 18) (v := ?vkb18) ?hkb18 hSw ?kkb18
    case hkb18 => (intro w hSw; (obtain ⟨⟨x0, x1, x2, x3, x4⟩, y0, y1, y2, y3, y4⟩ := KC.out w hSw); go_simp; try (with_reducible rfl))
    go_simp
    refine wpAnyH_ready (rs := [19]) (by kernel_rfl) (by simp) ?_
    refine AllReadyH.cons rfl (fun K hK => ?_) AllReadyH.nil
    go_simp
    with_reducible refine (HLS.out _).mono ?_
    rintro e w3 ⟨rfl, hb3⟩
    go_simp
    refine hK.out _ _ (hSw.trans (hb3.mono hSw.size)) (fun hSn => ?_)
    clear hK K hSw
    have hSw := hSn
    clear hSn
    go_simp
    refine wpT (i := 20) (v := ?vkb20) ?hkb20 hSw ?kkb20
    case hkb20 => (intro w hSw; (obtain ⟨⟨x0, x1, x2, x3, x4⟩, y0, y1, y2, y3, y4⟩ := KC.out w hSw); go_simp; try (with_reducible rfl))
    go_simp
    refine wpT (i := 21) (v := ?vkb21) ?hkb21 hSw ?kkb21
    case hkb21 => (intro w hSw; (obtain ⟨⟨x0, x1, x2, x3, x4⟩, y0, y1, y2, y3, y4⟩ := KC.out w hSw); go_simp; try (with_reducible rfl))
    go_simp
    refine wpT (i := 22) (v := ?vkb22) ?hkb22 hSw ?kkb22
    case hkb22 => (intro w hSw; (obtain ⟨⟨x0, x1, x2, x3, x4⟩, y0, y1, y2, y3, y4⟩ := KC.out w hSw); go_simp; try (with_reducible rfl))
    go_simp
    refine wpAnyH_done (by kernel_rfl) ?_ _
    have hby := hbl.trans (hSw.mono hbl.size)
    clear hSw KC HOK HLS
    go_wp2
    go_roundw
    case rel => exact ⟨k + 1, by omega, by go_num, hby⟩
    case measure => simp [intOf]; omega
  ·go_wp2
   go_ret
   exact ⟨rfl, hbl⟩
end
section
open Go Go.RowKit Go.Lib
theorem rstate_any (A : Option Addr) (n c : Nat) (l : List It) (w : World) (hn : n ≤ 1000000) (hS : Stt l) (hr : Row w.heap.size w A n 5 (itc l)) :
  Calls Tryz.prog 51 #[.slice A n c] w fun e w' => e = .returned (.bool true) ∧ Below w.heap.size w w' := by
 have hnn := hr.itlen
 have HS := Lib.hid hS
 have hrr := fun W (hb : Below w.heap.size w W) => rrises_any A n c l W hn hS ((hr.below hb).up hb.size)
 have HRR := Lib.hid hrr
 clear hS hrr
 go_enter Tryz.func51, Tryz.ntmps51
 go_wp2
 go_loopw [3] (fun i wr => ∃ k : Nat, k ≤ n ∧ i = .int .i64 (k : Int) ∧ Below w.heap.size w wr) (fun i _ => n - (intOf i).toNat)
 case atStart => exact ⟨0, Nat.zero_le _, rfl, Below.refl _ _⟩
 case round =>
  obtain ⟨k, hk, rfl, hbl⟩ := hrel
  by_cases hlt : k < n
  ·have hkn : (k : Int) < (n : Int) := by omega
   have hwk : IntKind.i64.wrap (k : Int) = (k : Int) := IntWalk.i64_in _ (by omega)
   go_wp2_with fail
   go_loopw [4] (fun i w2 => ∃ q : Nat, q ≤ n ∧ i = .int .i64 (q : Int) ∧ Below w.heap.size w w2) (fun i _ => n - (intOf i).toNat)
   case atStart => exact ⟨0, Nat.zero_le _, rfl, hbl⟩
   case round =>
    obtain ⟨q, hq, rfl, hb2⟩ := hrel
    by_cases hqn : q < n
    ·obtain ⟨a, hl, rfl, hbk, hd⟩ := (hr.below hb2).it hlt
     obtain ⟨a2, hl2, ea, _, hd2⟩ := (hr.below hb2).it hqn
     injection ea with ea
     subst ea
     have hba := HS.out.bare _ (List.getElem_mem hl) _ (List.getElem_mem hl2)
     have hhd := fun W => rhides_any l[k] l[q] W
     rw [hba] at hhd
     generalize l[k] = x at *
     generalize l[q] = y at *
     have hkc : ∀ w', Below wr.heap.size wr w' → (w'.cell? (a.add (k * 5)) = some (.int .i64 x.s) ∧ w'.cell? ⟨(a.add (k * 5)).block, (a.add (k * 5)).off + 1, none⟩ = some (.int .i64 x.k) ∧ w'.cell? ⟨(a.add (k * 5)).block, (a.add (k * 5)).off + 2, none⟩ = some (.int .u64 (x.t : Int)) ∧ w'.cell? ⟨(a.add (k * 5)).block, (a.add (k * 5)).off + 3, none⟩ = some (.int .u64 (x.v : Int)) ∧ w'.cell? ⟨(a.add (k * 5)).block, (a.add (k * 5)).off + 4, none⟩ = some (.int .i64 x.x)) ∧ w'.cell? (a.add (q * 5)) = some (.int .i64 y.s) ∧ w'.cell? ⟨(a.add (q * 5)).block, (a.add (q * 5)).off + 1, none⟩ = some (.int .i64 y.k) ∧ w'.cell? ⟨(a.add (q * 5)).block, (a.add (q * 5)).off + 2, none⟩ = some (.int .u64 (y.t : Int)) ∧ w'.cell? ⟨(a.add (q * 5)).block, (a.add (q * 5)).off + 3, none⟩ = some (.int .u64 (y.v : Int)) ∧ w'.cell? ⟨(a.add (q * 5)).block, (a.add (q * 5)).off + 4, none⟩ = some (.int .i64 y.x) := fun w' hb => by
      have h1 := hd.below (B := wr.heap.size) (w' := w') (Nat.lt_of_lt_of_le hbk hb2.size) hb
      have h2 := hd2.below (B := wr.heap.size) (w' := w') (Nat.lt_of_lt_of_le hbk hb2.size) hb
      exact ⟨⟨h1.c0, h1.c1, h1.c2, h1.c3, h1.c4⟩, h2.c0, h2.c1, h2.c2, h2.c3, h2.c4⟩
     unfold It.val at hhd
     have KC := Lib.hid hkc
     have HHD := Lib.hid hhd
     have hqn2 : (q : Int) < (n : Int) := by omega
     have hwq : IntKind.i64.wrap (q : Int) = (q : Int) := IntWalk.i64_in _ (by omega)
     have c1 := hd.c1
     by_cases h1 : x.k = 1
     ·have e1 : (x.k == 1) = true := by simp [h1]
      rw [h1] at hhd
      have HHD := Lib.hid hhd
      clear hkc hhd hd hd2 hba
      go_wp2_with fail
      refine wp_region_held_drew (S := fun w' => Below wr.heap.size wr w') rfl (below_drew (Below.refl _ _)) (fun hSw => ?_)
      refine wpT (i := 0) (v := ?vsa0) ?hsa0 hSw ?ksa0
      case hsa0 => (intro w hSw; (obtain ⟨⟨x0, x1, x2, x3, x4⟩, y0, y1, y2, y3, y4⟩ := KC.out w hSw); go_simp; try (with_reducible rfl))
      go_simp
      refine wpT (i := 1) (v := ?vsa1) ?hsa1 hSw ?ksa1
      case hsa1 => (intro w hSw; (obtain ⟨⟨x0, x1, x2, x3, x4⟩, y0, y1, y2, y3, y4⟩ := KC.out w hSw); go_simp; try (with_reducible rfl))
      go_simp
      refine wpT (i := 2) (v := ?vsa2) ?hsa2 hSw ?ksa2
      case hsa2 => (intro w hSw; (obtain ⟨⟨x0, x1, x2, x3, x4⟩, y0, y1, y2, y3, y4⟩ := KC.out w hSw); go_simp; try (with_reducible rfl))
      go_simp
      refine wpT (i := 3) (v := ?vsa3) ?hsa3 hSw ?ksa3
      case hsa3 => (intro w hSw; (obtain ⟨⟨x0, x1, x2, x3, x4⟩, y0, y1, y2, y3, y4⟩ := KC.out w hSw); go_simp; try (with_reducible rfl))
      go_simp
      refine wpT (i := 4) (v := ?vsa4) ?hsa4 hSw ?ksa4
      case hsa4 => (intro w hSw; (obtain ⟨⟨x0, x1, x2, x3, x4⟩, y0, y1, y2, y3, y4⟩ := KC.out w hSw); go_simp; try (with_reducible rfl))
      go_simp
      refine wpT (i := 5) (v := ?vsa5) ?hsa5 hSw ?ksa5
      case hsa5 => (intro w hSw; (obtain ⟨⟨x0, x1, x2, x3, x4⟩, y0, y1, y2, y3, y4⟩ := KC.out w hSw); go_simp; try (with_reducible rfl))
      go_simp
      refine wpT (i := 6) (v := ?vsa6) ?hsa6 hSw ?ksa6
      case hsa6 => (intro w hSw; (obtain ⟨⟨x0, x1, x2, x3, x4⟩, y0, y1, y2, y3, y4⟩ := KC.out w hSw); go_simp; try (with_reducible rfl))
      go_simp
      refine wpT (i := 7) (v := ?vsa7) ?hsa7 hSw ?ksa7
      case hsa7 => (intro w hSw; (obtain ⟨⟨x0, x1, x2, x3, x4⟩, y0, y1, y2, y3, y4⟩ := KC.out w hSw); go_simp; try (with_reducible rfl))
      go_simp
      refine wpAnyH_ready (rs := [8]) (by kernel_rfl) (by simp) ?_
      refine AllReadyH.cons rfl (fun K hK => ?_) AllReadyH.nil
      go_simp
      with_reducible refine (HHD.out _).mono ?_
      rintro e w3 ⟨rfl, hb3⟩
      go_simp
      refine hK.out _ _ (hSw.trans (hb3.mono hSw.size)) (fun hSn => ?_)
      clear hK K hSw
      have hSw := hSn
      clear hSn
      go_simp
      refine wpAnyH_done (by kernel_rfl) ?_ _
      have hby := hb2.trans (hSw.mono hb2.size)
      clear hSw KC HHD
      go_wp2
      go_roundw
      case rel => exact ⟨q + 1, by omega, by go_num, hby⟩
      case measure => simp [intOf]; omega
     ·have e1 : (x.k == 1) = false := by simpa using h1
      clear hkc hhd hd hd2 hba KC HHD
      go_wp2
      go_roundw
      case rel => exact ⟨k + 1, by omega, by go_num, hb2⟩
      case measure => simp [intOf]; omega
    ·have hqn2 : ((q : Int) < (n : Int)) = False := eq_false (by omega)
     go_wp2
     go_roundw
     case rel => exact ⟨k + 1, by omega, by go_num, hb2⟩
     case measure => simp [intOf]; omega
  ·have hkn : ((k : Int) < (n : Int)) = False := eq_false (by omega)
   go_wp2_with fail
   refine (HRR.out _ hbl).mono ?_
   rintro e w3 ⟨rfl, hb3⟩
   have hbz := later_ hbl hb3
   go_wp2
   go_ret
   exact ⟨rfl, hbz⟩
end
section
open It
def rstep (x : It) (r : List It × Bool) (y : It) : List It × Bool :=
 if same x y = true then r else
 let r1 := if !r.2 && less x y then (r.1 ++ [x], true) else r
 (if hides x y then r1.1 else r1.1 ++ [y], r1.2)
theorem rstep_low {x : It} : ∀ (l : List It) (out : List It), (∀ y ∈ l, less y x = true) → l.foldl (rstep x) (out, false) = (out ++ l.filter (fun y => !hides x y), false)
 | [], out, _ => by simp
 | y :: l, out, h => by
  have h1 := h y List.mem_cons_self
  have h2 : less x y = false := by rw [less_iff] at h1; rw [less_no]; omega
  have h3 : same x y = false := by simp [same, h1, h2]
  have e : rstep x (out, false) y = (if hides x y then out else out ++ [y], false) := by simp [rstep, h2, h3]
  rw [List.foldl_cons, e, rstep_low l _ (fun z hz => h z (List.mem_cons_of_mem _ hz)), List.filter_cons]
  cases hides x y <;> simp
theorem rstep_same {x : It} (r : List It × Bool) : ∀ (l : List It), (∀ y ∈ l, same x y = true) → l.foldl (rstep x) r = r
 | [], _ => rfl
 | y :: l, h => by
  have h1 := h y List.mem_cons_self
  rw [List.foldl_cons, show rstep x r y = r by simp [rstep, h1], rstep_same r l (fun z hz => h z (List.mem_cons_of_mem _ hz))]
theorem rstep_high {x : It} : ∀ (l : List It) (out : List It), (∀ y ∈ l, less x y = true) → l.foldl (rstep x) (out, true) = (out ++ l.filter (fun y => !hides x y), true)
 | [], out, _ => by simp
 | y :: l, out, h => by
  have h1 := h y List.mem_cons_self
  have h2 : less y x = false := by rw [less_iff] at h1; rw [less_no]; omega
  have h3 : same x y = false := by simp [same, h1, h2]
  have e : rstep x (out, true) y = (if hides x y then out else out ++ [y], true) := by simp [rstep, h3]
  rw [List.foldl_cons, e, rstep_high l _ (fun z hz => h z (List.mem_cons_of_mem _ hz)), List.filter_cons]
  cases hides x y <;> simp
theorem three {l : List It} (h : Rises l) (x : It) : l = l.filter (fun y => less y x) ++ (l.filter (fun y => same x y) ++ l.filter (fun y => less x y)) := by
 induction l with
 | nil => rfl
 | cons a r ih =>
  obtain ⟨a1, a2⟩ := List.pairwise_cons.1 h
  have ih := ih a2
  cases h1 : less a x with
  | true =>
   have h2 : less x a = false := by rw [less_iff] at h1; rw [less_no]; omega
   have h3 : same x a = false := by simp [same, h1]
   simp only [List.filter_cons, h1, h2, h3, if_true, Bool.false_eq_true, if_false, List.cons_append]
   rw [← ih]
  | false =>
   have hl : r.filter (fun y => less y x) = [] := List.filter_eq_nil_iff.2 fun y hy => by
    have := a1 y hy
    rw [less_iff] at this
    rw [less_no] at h1
    simp only [Bool.not_eq_true, less_no]
    omega
   cases h2 : less x a with
   | true =>
    have h3 : same x a = false := by simp [same, h2]
    have hs : r.filter (fun y => same x y) = [] := List.filter_eq_nil_iff.2 fun y hy => by
     have := a1 y hy
     rw [less_iff] at this h2
     rw [same_iff]
     omega
    rw [hl, hs] at ih
    simp only [List.filter_cons, h1, h2, h3, if_true, Bool.false_eq_true, if_false, hl, hs, List.nil_append]
    exact congrArg _ (by simpa using ih)
   | false =>
    have h3 : same x a = true := by simp [same, h1, h2]
    rw [hl, List.nil_append] at ih
    simp only [List.filter_cons, h1, h2, h3, if_true, Bool.false_eq_true, if_false, hl, List.nil_append, List.cons_append]
    rw [← ih]
theorem radd_fin {l : List It} {x : It} (h : Stt l) (hk : x.ok = true) (hh : hidden l x = false) (hb : beaten l x = false) :
  (if (l.foldl (rstep x) ([], false)).2 = true then (l.foldl (rstep x) ([], false)).1 else (l.foldl (rstep x) ([], false)).1 ++ [x]) = add l x := by
 have hxx : hides x x = false := by rw [hides_no]; omega
 have hadd : add l x = (put l x).filter fun y => !hides x y := by unfold add; simp [hk, hh, hb]
 have e1 : l.foldl (rstep x) ([], false) = (l.filter (fun y => less x y)).foldl (rstep x) ((l.filter (fun y => less y x)).filter (fun y => !hides x y), false) := by
  conv => lhs; rw [three h.rises x]
  rw [List.foldl_append, List.foldl_append, rstep_low _ _ (fun y hy => (List.mem_filter.1 hy).2), rstep_same _ _ (fun y hy => (List.mem_filter.1 hy).2), List.nil_append]
 rw [hadd, e1]
 unfold put
 rw [List.filter_append, List.filter_cons]
 simp only [hxx, Bool.not_false, if_true]
 have hhi : ∀ y ∈ l.filter (fun y => less x y), less x y = true := fun y hy => (List.mem_filter.1 hy).2
 generalize l.filter (fun y => less x y) = L2 at *
 generalize (l.filter (fun y => less y x)).filter (fun y => !hides x y) = L1 at *
 cases L2 with
 | nil => simp
 | cons y r =>
  have h1 := hhi y List.mem_cons_self
  have h2 : less y x = false := by rw [less_iff] at h1; rw [less_no]; omega
  have h3 : same x y = false := by simp [same, h1, h2]
  have e : rstep x (L1, false) y = (if hides x y then L1 ++ [x] else L1 ++ [x] ++ [y], true) := by simp [rstep, h1, h3]
  rw [List.foldl_cons, e, rstep_high r _ (fun z hz => hhi z (List.mem_cons_of_mem _ hz)), List.filter_cons]
  cases hides x y <;> simp
end
end Go.Proofs.YtdkjoigpahafmaaGreatDoor
