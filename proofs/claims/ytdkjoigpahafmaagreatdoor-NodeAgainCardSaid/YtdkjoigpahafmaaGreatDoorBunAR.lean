/- Texts NodI, NodJ, PlainNode in one. No conditions. -/
import Derived.Test.YtdkjoigpahafmaaGreatDoorBunAA
import Derived.Test.YtdkjoigpahafmaaGreatDoorBunAQ
import Derived.Laws.StructEq
import Derived.Test.YtdkjoigpahafmaaGreatDoorBunAO
import Derived.Test.YtdkjoigpahafmaaGreatDoorBunAI

set_option linter.unusedSimpArgs false
set_option linter.unusedVariables false
set_option maxRecDepth 100000
set_option maxHeartbeats 16000000
namespace Go.Proofs.YtdkjoigpahafmaaGreatDoor
section
open Go Go.RowKit Go.Lib Go.Shelf
variable {w w1 w2 : World} {X X1 X2 : Dw} {S S1 S2 : Sd} {Y Y1 Y2 : Yw} {V V1 V2 : Sv} {nb now grace : Nat} {ni : Int}
theorem HPost.up {mf : Int} {mi : Nat} {ans : Option (Int × Nat × List It)} {e : Ending} (e1 : X1.d = X.d) (e2 : Y1.s = Y.s) (c : Chg (XY X Y) w w1) (hf : ∀ g ∈ XY X1 Y1, g ∈ XY X Y ∨ w.heap.size ≤ g) (hn : NewA w Y Y1) (k : HPost X1 Y1 w1 S1 V1 nb ni now grace mf mi ans e w2) : HPost X Y w S1 V1 nb ni now grace mf mi ans e w2 := by
 obtain ⟨X2, Y2, q1, q2, h, c2, f2, n2, r⟩ := k
 refine ⟨X2, Y2, q1.trans e1, q2.trans e2, h, c.trans c2 hf, fun g hg => ?_, hn.trans n2 c.size, ?_⟩
 ·rcases f2 g hg with q | q
  ·exact hf g q
  ·exact .inr (Nat.le_trans c.size q)
 ·cases ans with
  | none => exact r
  | some a =>
   obtain ⟨g, B, n, cc, z1, z2, z3, z4, z5, z6⟩ := r
   exact ⟨g, B, n, cc, z1, z2, Nat.le_trans c.size z3, z4, fun a ha => Nat.le_trans c.size (z5 a ha), z6⟩
theorem NdAt.told (h : NdAt w X S Y V nb ni now grace) {k : Int} {mf : Int} {mi nn : Nat} {B : Option Addr} {n c : Nat} {L : List It} (hb : Below w.heap.size w w1) (hr : Row w1.heap.size w1 B n 5 (itc L)) (hl : ∀ a, B = some a → w.heap.size ≤ a.block)
  (hb2 : Below w1.heap.size w1 w2) (ha : Answ w2 w1.heap.size k ni mf mi nn B n c) : HPost X Y w S V nb ni now grace mf mi (some (k, nn, L)) (.returned (.slice (some ⟨w1.heap.size, 0, none⟩) 1 1)) w2 := by
 have hx := h.at_.lt
 have hs := hb.size
 exact ⟨X, Y, rfl, rfl, (h.below hb).below hb2, Chg.of_below (later_ hb hb2) _, fun _ hg => .inl hg, .inl rfl, _, B, n, c, rfl, ha, hs, (hr.below hb2).up hb2.size, hl, fun hm => by have := hx _ hm; omega, fun a ha hm => by have := hx _ hm; have := hl a ha; omega⟩
theorem hask_any (h : NdAt w X S Y V nb ni now grace) (hN : Nrm V) (frm : Int) (mi no : Nat) (A : Option Addr) (n c : Nat) (l : List It) (hg : (Mq.mk 4 frm ni mi no A n c).Good l) (hr : Row w.heap.size w A n 5 (itc l)) (hno : no ≤ 255) :
  Calls Tryz.prog 16 #[.pointer (some ⟨nb, 0, none⟩), .agg #[.int .i64 4, .int .i64 frm, .int .i64 ni, .int .u64 (mi : Int), .int .u64 (no : Int), .slice A n c]] w (HPost X Y w S V nb ni now grace frm mi (some (5, V.M.v.cert, V.st.filter fun a => a.s == (no : Int)))) := by
 have HH := Lib.hid h
 have hb1 := (Below.refl w.heap.size w).alloc (Nat.le_refl _) (.cells #[.pointer (some ⟨nb, 0, none⟩)] 42)
 have hb2 := hb1.alloc (by simp) (.cells #[.int .i64 4, .int .i64 frm, .int .i64 ni, .int .u64 (mi : Int), .int .u64 (no : Int), .slice A n c] 47)
 have hx0 := (BoxO.new w #[.pointer (some ⟨nb, 0, none⟩)] 42).alloc (.cells #[.int .i64 4, .int .i64 frm, .int .i64 ni, .int .u64 (mi : Int), .int .u64 (no : Int), .slice A n c] 47)
 have hx1 := BoxO.new (w.alloc (.cells #[.pointer (some ⟨nb, 0, none⟩)] 42)) #[.int .i64 4, .int .i64 frm, .int .i64 ni, .int .u64 (mi : Int), .int .u64 (no : Int), .slice A n c] 47
 rw [World.size_alloc] at hx1
 have h2 := h.below hb2
 have hmf : ∀ (fn : Fn) (first cap : Array Value) (w : World), (Instr.makeFunc fn first cap).run Tryz.prog w = .ok (.func fn first cap) w := fun _ _ _ _ => rfl
 obtain ⟨W, hW⟩ : ∃ W, W = (w.alloc (.cells #[.pointer (some ⟨nb, 0, none⟩)] 42)).alloc (.cells #[.int .i64 4, .int .i64 frm, .int .i64 ni, .int .u64 (mi : Int), .int .u64 (no : Int), .slice A n c] 47) := ⟨_, rfl⟩
 obtain ⟨g0, hg0⟩ : ∃ g0, g0 = w.heap.size := ⟨_, rfl⟩
 rw [← hW] at hb2 hx0 hx1 h2
 rw [← hg0] at hx0 hx1
 have hmo := fun W' (hb : Below W.heap.size W W') => mok_yes _ l W' hg ((((hr.below hb2).up hb2.size).below hb).up hb.size)
 unfold Mq.val at hmo
 simp only at hmo
 have HMO := Lib.hid hmo
 have H2 := Lib.hid h2
 have HX := Lib.hid (And.intro hx0 hx1)
 have HB := Lib.hid hb2
 have HW := Lib.hid (And.intro hW hg0)
 have HROW := Lib.hid ((hr.below hb2).up hb2.size)
 have HL := Lib.hid (And.intro h.at_.lt (And.intro h.box.lt h.at_.dm.env.base))
 have HK := Lib.hid (fun W' (hb : Below W.heap.size W W') => And.intro (hx0.below hb) (And.intro (hx1.below hb) (h2.below hb)))
 clear hmo h2 hx0 hx1 hb1 hb2 hW hg0 hr h hg
 go_enter Tryz.func16, Tryz.ntmps16
 go_wp2_with fail
 rw [← HW.out.1, ← HW.out.2]
 refine wp_region_held_drew (S := fun w' => Below W.heap.size W w') rfl (below_drew (Below.refl _ _)) (fun hSw => ?_)
 refine wpT (i := 0) (v := ?vhas0) ?hhas0 hSw ?khas0
 case hhas0 => (intro w hSw; (obtain ⟨x, y, z⟩ := HK.out _ hSw; have x0 := x.cell 0; have y0 := y.cell 0; have y1 := y.cell 1; have y2 := y.cell 2; have y3 := y.cell 3; have y4 := y.cell 4; have y5 := y.cell 5; have z0 := z.box.cell 0; simp only [gE0, gE1] at x0 y0 y1 y2 y3 y4 y5 z0; clear x y z); go_simp; try (with_reducible rfl))
 go_simp
 refine wpAnyH_ready (rs := [1]) (by kernel_rfl) (by simp) ?_
 refine AllReadyH.cons rfl (fun K hK => ?_) AllReadyH.nil
 go_simp
 with_reducible refine (HMO.out _ hSw).mono ?_
 rintro e w3 ⟨rfl, hb3⟩
 go_simp
 refine hK.out _ _ (later_ hSw hb3) (fun hSn => ?_)
 clear hK K hSw
 have hSw := hSn
 clear hSn
 go_simp
 refine wpT (i := 2) (v := ?vhas2) ?hhas2 hSw ?khas2
 case hhas2 => (intro w hSw; (obtain ⟨x, y, z⟩ := HK.out _ hSw; have x0 := x.cell 0; have y0 := y.cell 0; have y1 := y.cell 1; have y2 := y.cell 2; have y3 := y.cell 3; have y4 := y.cell 4; have y5 := y.cell 5; have z0 := z.box.cell 0; simp only [gE0, gE1] at x0 y0 y1 y2 y3 y4 y5 z0; clear x y z); go_simp; try (with_reducible rfl))
 go_simp
 refine wpT (i := 3) (v := ?vhas3) ?hhas3 hSw ?khas3
 case hhas3 => (intro w hSw; (obtain ⟨x, y, z⟩ := HK.out _ hSw; have x0 := x.cell 0; have y0 := y.cell 0; have y1 := y.cell 1; have y2 := y.cell 2; have y3 := y.cell 3; have y4 := y.cell 4; have y5 := y.cell 5; have z0 := z.box.cell 0; simp only [gE0, gE1] at x0 y0 y1 y2 y3 y4 y5 z0; clear x y z); go_simp; try (with_reducible rfl))
 go_simp
 refine wpT (i := 4) (v := ?vhas4) ?hhas4 hSw ?khas4
 case hhas4 => (intro w hSw; (obtain ⟨x, y, z⟩ := HK.out _ hSw; have x0 := x.cell 0; have y0 := y.cell 0; have y1 := y.cell 1; have y2 := y.cell 2; have y3 := y.cell 3; have y4 := y.cell 4; have y5 := y.cell 5; have z0 := z.box.cell 0; simp only [gE0, gE1] at x0 y0 y1 y2 y3 y4 y5 z0; clear x y z); go_simp; try (with_reducible rfl))
 go_simp
 refine wpT (i := 5) (v := ?vhas5) ?hhas5 hSw ?khas5
 case hhas5 => (intro w hSw; (obtain ⟨x, y, z⟩ := HK.out _ hSw; have x0 := x.cell 0; have y0 := y.cell 0; have y1 := y.cell 1; have y2 := y.cell 2; have y3 := y.cell 3; have y4 := y.cell 4; have y5 := y.cell 5; have z0 := z.box.cell 0; simp only [gE0, gE1] at x0 y0 y1 y2 y3 y4 y5 z0; clear x y z); go_simp; try (with_reducible rfl))
 go_simp
 refine wpT (i := 6) (v := ?vhas6) ?hhas6 hSw ?khas6
 case hhas6 => (intro w hSw; (obtain ⟨x, y, z⟩ := HK.out _ hSw; have x0 := x.cell 0; have y0 := y.cell 0; have y1 := y.cell 1; have y2 := y.cell 2; have y3 := y.cell 3; have y4 := y.cell 4; have y5 := y.cell 5; have z0 := z.box.cell 0; simp only [gE0, gE1] at x0 y0 y1 y2 y3 y4 y5 z0; clear x y z); go_simp; try (with_reducible rfl))
 go_simp
 refine wpT (i := 7) (v := ?vhas7) ?hhas7 hSw ?khas7
 case hhas7 => (intro w hSw; (obtain ⟨x, y, z⟩ := HK.out _ hSw; have x0 := x.cell 0; have y0 := y.cell 0; have y1 := y.cell 1; have y2 := y.cell 2; have y3 := y.cell 3; have y4 := y.cell 4; have y5 := y.cell 5; have z0 := z.box.cell 0; simp only [gE0, gE1] at x0 y0 y1 y2 y3 y4 y5 z0; clear x y z); go_simp; try (with_reducible rfl))
 go_simp
 refine wpT (i := 8) (v := ?vhas8) ?hhas8 hSw ?khas8
 case hhas8 => (intro w hSw; (obtain ⟨x, y, z⟩ := HK.out _ hSw; have x0 := x.cell 0; have y0 := y.cell 0; have y1 := y.cell 1; have y2 := y.cell 2; have y3 := y.cell 3; have y4 := y.cell 4; have y5 := y.cell 5; have z0 := z.box.cell 0; simp only [gE0, gE1] at x0 y0 y1 y2 y3 y4 y5 z0; clear x y z); go_simp; try (with_reducible rfl))
 go_simp
 refine wpT (i := 9) (v := ?vhas9) ?hhas9 hSw ?khas9
 case hhas9 => (intro w hSw; (obtain ⟨x, y, z⟩ := HK.out _ hSw; have x0 := x.cell 0; have y0 := y.cell 0; have y1 := y.cell 1; have y2 := y.cell 2; have y3 := y.cell 3; have y4 := y.cell 4; have y5 := y.cell 5; have z0 := z.box.cell 0; simp only [gE0, gE1] at x0 y0 y1 y2 y3 y4 y5 z0; clear x y z); go_simp; try (with_reducible rfl))
 go_simp
 refine wpT (i := 10) (v := ?vhas10) ?hhas10 hSw ?khas10
 case hhas10 => (intro w hSw; (obtain ⟨x, y, z⟩ := HK.out _ hSw; have x0 := x.cell 0; have y0 := y.cell 0; have y1 := y.cell 1; have y2 := y.cell 2; have y3 := y.cell 3; have y4 := y.cell 4; have y5 := y.cell 5; have z0 := z.box.cell 0; simp only [gE0, gE1] at x0 y0 y1 y2 y3 y4 y5 z0; clear x y z); go_simp; try (with_reducible rfl))
 go_simp
 refine wpT (i := 11) (v := ?vhas11) ?hhas11 hSw ?khas11
 case hhas11 => (intro w hSw; (obtain ⟨x, y, z⟩ := HK.out _ hSw; have x0 := x.cell 0; have y0 := y.cell 0; have y1 := y.cell 1; have y2 := y.cell 2; have y3 := y.cell 3; have y4 := y.cell 4; have y5 := y.cell 5; have z0 := z.box.cell 0; simp only [gE0, gE1] at x0 y0 y1 y2 y3 y4 y5 z0; clear x y z); go_simp; try (with_reducible rfl))
 go_simp
 refine wpAnyH_done (by kernel_rfl) ?_ _
 have hb4 := later_ (below_drew (Below.refl W.heap.size W)) hb3
 clear hSw hb3 HMO
 obtain ⟨x, y, z⟩ := HK.out _ hb4
 have x0 := x.cell 0
 have z1 := z.box.cell 1
 simp only [gE0, gE1] at x0 z1
 have HME := Lib.hid (smeta_any z.at_ (by have := hN.files; omega))
 have HB4 := Lib.hid hb4
 clear x y z hb4
 go_wp2_with fail
 with_reducible refine HME.out.mono ?_
 rintro e w4 ⟨rfl, hb5⟩
 obtain ⟨mt, hmt⟩ : ∃ mt, mt = St.meta_ V := ⟨_, rfl⟩
 have HB5 := Lib.hid (later_ HB4.out hb5)
 have hb6 := later_ HB5.out ((Below.refl w4.heap.size w4).alloc (Nat.le_refl _) (.cells #[.int .u64 (mt.floor : Int), .int .u64 (mt.cert : Int), .int .u64 (mt.at_ : Int), .int .u64 (mt.lease : Int)] 32))
 have HX6 := Lib.hid (BoxO.new w4 #[.int .u64 (mt.floor : Int), .int .u64 (mt.cert : Int), .int .u64 (mt.at_ : Int), .int .u64 (mt.lease : Int)] 32)
 have HB6 := Lib.hid hb6
 rw [← hmt]
 unfold Mt.val
 have HMT := Lib.hid hmt
 clear hmt hb5 HME x0 z1 hb6
 obtain ⟨x, y, z⟩ := HK.out _ HB6.out
 have x0 := x.cell 0
 have y0 := y.cell 0
 have y1 := y.cell 1
 have y3 := y.cell 3
 have y4 := y.cell 4
 have y5 := y.cell 5
 have z0 := z.box.cell 0
 have z1 := z.box.cell 1
 simp only [gE0, gE1] at x0 y0 y1 y3 y4 y5 z0 z1
 have e1 : ((no : Int) ≤ (255 : Int)) = True := eq_true (by omega)
 have hwn : IntKind.i64.wrap (no : Int) = (no : Int) := IntWalk.i64_in _ (by omega)
 obtain ⟨W6, hW6⟩ : ∃ W6, W6 = w4.alloc (.cells #[.int .u64 (mt.floor : Int), .int .u64 (mt.cert : Int), .int .u64 (mt.at_ : Int), .int .u64 (mt.lease : Int)] 32) := ⟨_, rfl⟩
 have HK6 : Hid (∀ W', Below W6.heap.size W6 W' → BoxO W' 42 g0 [.pointer (some ⟨nb, 0, none⟩)] ∧ BoxO W' 47 (g0 + 1) [.int .i64 4, .int .i64 frm, .int .i64 ni, .int .u64 (mi : Int), .int .u64 (no : Int), .slice A n c] ∧ NdAt W' X S Y V nb ni now grace ∧ BoxO W' 32 w4.heap.size [.int .u64 (mt.floor : Int), .int .u64 (mt.cert : Int), .int .u64 (mt.at_ : Int), .int .u64 (mt.lease : Int)]) := Lib.hid (fun W' hb => by
  rw [hW6] at hb
  have q := HK.out W' (later_ HB6.out hb)
  exact ⟨q.1, q.2.1, q.2.2, HX6.out.below hb⟩)
 have HW6 := Lib.hid hW6
 have HAN := Lib.hid (fun W' (hb : Below W6.heap.size W6 W') B nn cc => (by
  obtain ⟨q1, q2, q3, _⟩ := HK6.out W' hb
  exact answer_any g0 (g0 + 1) nb frm ni 5 mi mt.cert B nn cc W' (q1.cell 0) (q3.box.cell 0) (q2.cell 1) (q2.cell 3) : Calls Tryz.prog 42 #[.int .i64 5, .int .u64 (mt.cert : Int), .slice B nn cc, .pointer (some ⟨g0, 0, none⟩), .pointer (some ⟨g0 + 1, 0, none⟩)] W' fun e w' => e = .returned (.slice (some ⟨W'.heap.size, 0, none⟩) 1 1) ∧ Below W'.heap.size W' w' ∧ Answ w' W'.heap.size 5 ni frm mi mt.cert B nn cc))
 have HSE := Lib.hid (fun W' (hb : Below W6.heap.size W6 W') => sseriesS_any (HK6.out W' hb).2.2.1.at_ (by have := hN.len; omega) (no : Int))
 clear x y z hW6
 go_wp2_with fail
 rw [← HW6.out]
 clear x0 y0 y1 y3 y4 y5 z0 z1
 refine wp_region_held_drew (S := fun w' => Below W6.heap.size W6 w') rfl (below_drew (Below.refl _ _)) (fun hSw => ?_)
 refine wpT (i := 0) (v := ?vhq0) ?hhq0 hSw ?khq0
 case hhq0 => (intro w hSw; (obtain ⟨x, y, z, q⟩ := HK6.out _ hSw; have x0 := x.cell 0; have y4 := y.cell 4; have z1 := z.box.cell 1; have q1 := q.cell 1; simp only [gE0, gE1] at x0 y4 z1 q1; clear x y z q); go_simp; try (with_reducible rfl))
 go_simp
 refine wpT (i := 1) (v := ?vhq1) ?hhq1 hSw ?khq1
 case hhq1 => (intro w hSw; (obtain ⟨x, y, z, q⟩ := HK6.out _ hSw; have x0 := x.cell 0; have y4 := y.cell 4; have z1 := z.box.cell 1; have q1 := q.cell 1; simp only [gE0, gE1] at x0 y4 z1 q1; clear x y z q); go_simp; try (with_reducible rfl))
 go_simp
 refine wpT (i := 2) (v := ?vhq2) ?hhq2 hSw ?khq2
 case hhq2 => (intro w hSw; (obtain ⟨x, y, z, q⟩ := HK6.out _ hSw; have x0 := x.cell 0; have y4 := y.cell 4; have z1 := z.box.cell 1; have q1 := q.cell 1; simp only [gE0, gE1] at x0 y4 z1 q1; clear x y z q); go_simp; try (with_reducible rfl))
 go_simp
 refine wpT (i := 3) (v := ?vhq3) ?hhq3 hSw ?khq3
 case hhq3 => (intro w hSw; (obtain ⟨x, y, z, q⟩ := HK6.out _ hSw; have x0 := x.cell 0; have y4 := y.cell 4; have z1 := z.box.cell 1; have q1 := q.cell 1; simp only [gE0, gE1] at x0 y4 z1 q1; clear x y z q); go_simp; try (with_reducible rfl))
 go_simp
 refine wpT (i := 4) (v := ?vhq4) ?hhq4 hSw ?khq4
 case hhq4 => (intro w hSw; (obtain ⟨x, y, z, q⟩ := HK6.out _ hSw; have x0 := x.cell 0; have y4 := y.cell 4; have z1 := z.box.cell 1; have q1 := q.cell 1; simp only [gE0, gE1] at x0 y4 z1 q1; clear x y z q); go_simp; try (with_reducible rfl))
 go_simp
 refine wpT (i := 5) (v := ?vhq5) ?hhq5 hSw ?khq5
 case hhq5 => (intro w hSw; (obtain ⟨x, y, z, q⟩ := HK6.out _ hSw; have x0 := x.cell 0; have y4 := y.cell 4; have z1 := z.box.cell 1; have q1 := q.cell 1; simp only [gE0, gE1] at x0 y4 z1 q1; clear x y z q); go_simp; try (with_reducible rfl))
 go_simp
 refine wpT (i := 6) (v := ?vhq6) ?hhq6 hSw ?khq6
 case hhq6 => (intro w hSw; (obtain ⟨x, y, z, q⟩ := HK6.out _ hSw; have x0 := x.cell 0; have y4 := y.cell 4; have z1 := z.box.cell 1; have q1 := q.cell 1; simp only [gE0, gE1] at x0 y4 z1 q1; clear x y z q); go_simp; try (with_reducible rfl))
 go_simp
 refine wpT (i := 7) (v := ?vhq7) ?hhq7 hSw ?khq7
 case hhq7 => (intro w hSw; (obtain ⟨x, y, z, q⟩ := HK6.out _ hSw; have x0 := x.cell 0; have y4 := y.cell 4; have z1 := z.box.cell 1; have q1 := q.cell 1; simp only [gE0, gE1] at x0 y4 z1 q1; clear x y z q); go_simp; try (with_reducible rfl))
 go_simp
 refine wpT (i := 8) (v := ?vhq8) ?hhq8 hSw ?khq8
 case hhq8 => (intro w hSw; (obtain ⟨x, y, z, q⟩ := HK6.out _ hSw; have x0 := x.cell 0; have y4 := y.cell 4; have z1 := z.box.cell 1; have q1 := q.cell 1; simp only [gE0, gE1] at x0 y4 z1 q1; clear x y z q); go_simp; try (with_reducible rfl))
 go_simp
 refine wpT (i := 9) (v := ?vhq9) ?hhq9 hSw ?khq9
 case hhq9 => (intro w hSw; (obtain ⟨x, y, z, q⟩ := HK6.out _ hSw; have x0 := x.cell 0; have y4 := y.cell 4; have z1 := z.box.cell 1; have q1 := q.cell 1; simp only [gE0, gE1] at x0 y4 z1 q1; clear x y z q); go_simp; try (with_reducible rfl))
 go_simp
 refine wpAnyH_ready (rs := [10]) (by kernel_rfl) (by simp) ?_
 refine AllReadyH.cons rfl (fun K hK => ?_) AllReadyH.nil
 go_simp
 with_reducible refine (HSE.out _ hSw).mono ?_
 rintro e w7 ⟨A7, k7, rfl, hk7, hi7, hb7⟩; clear hk7
 go_simp
 refine hK.out _ _ (later_ hSw hb7) (fun hSn => ?_)
 clear hK K hSw
 have hSw := hSn
 clear hSn
 go_simp
 refine wpAnyH_ready (rs := [11]) (by kernel_rfl) (by simp) ?_
 refine AllReadyH.cons rfl (fun K hK => ?_) AllReadyH.nil
 go_simp
 with_reducible refine (HAN.out _ hSw A7 k7 k7).mono ?_
 rintro e w8 ⟨rfl, hb8, ha8⟩
 go_simp
 refine hK.out _ _ (later_ hSw hb8) (fun hSn => ?_)
 clear hK K hSw
 have hSw := hSn
 clear hSn
 go_simp
 refine wpT (i := 12) (v := ?vhq12) ?hhq12 hSw ?khq12
 case hhq12 => (intro w hSw; (obtain ⟨x, y, z, q⟩ := HK6.out _ hSw; have x0 := x.cell 0; have y4 := y.cell 4; have z1 := z.box.cell 1; have q1 := q.cell 1; simp only [gE0, gE1] at x0 y4 z1 q1; clear x y z q); go_simp; try (with_reducible rfl))
 go_simp
 refine wpAnyH_done (by kernel_rfl) ?_ _
 have hb6 : Below w.heap.size w W6 := HB.out.trans ((by rw [HW6.out]; exact HB6.out : Below W.heap.size W W6).mono HB.out.size)
 have hz : HPost X Y w S V nb ni now grace frm mi (some (5, V.M.v.cert, V.st.filter fun a => a.s == (no : Int))) (.returned (.slice (some ⟨w7.heap.size, 0, none⟩) 1 1)) w8 := by
  have e2 : V.M.v.cert = mt.cert := by rw [HMT.out]; rfl
  rw [e2]
  have hb67 : Below w.heap.size w w7 := later_ hb6 (later_ (below_drew (Below.refl _ _)) hb7)
  exact HH.out.told hb67 hi7.row (fun a ha => Nat.le_trans hb6.size (hi7.low a ha)) hb8 ha8
 have HZ := Lib.hid hz
 clear hz hb6 hSw hb7 hi7 hb8 ha8 HAN HSE
 go_wp2
 go_ret
 exact HZ.out
end
section
open Go Go.RowKit Go.Lib Go.Shelf
variable {w w1 w2 : World} {X X1 X2 : Dw} {S S1 S2 : Sd} {Y Y1 Y2 : Yw} {V V1 V2 : Sv} {nb now grace : Nat} {ni : Int}
def St.seal (S : Sd) (V : Sv) (f : Nat) : Sd × Sv × Option (Int × Nat × List It) :=
 if f < V.M.v.floor then (S, V, some (3, V.M.v.floor, [])) else
 if f = V.M.v.floor then (S, V, some (7, f, upto V.st f)) else
 if (St.setMeta S V { St.meta_ V with floor := f }).2.2 = 0 then ((St.setMeta S V { St.meta_ V with floor := f }).1, (St.setMeta S V { St.meta_ V with floor := f }).2.1, some (7, f, upto V.st f)) else
 ((St.setMeta S V { St.meta_ V with floor := f }).1, (St.setMeta S V { St.meta_ V with floor := f }).2.1, none)
theorem mt_eql (x y c a e : Nat) (w : World) : (binOp .eql 32 (.agg #[.int .u64 (x : Int), .int .u64 (c : Int), .int .u64 (a : Int), .int .u64 (e : Int)]) (.agg #[.int .u64 (y : Int), .int .u64 (c : Int), .int .u64 (a : Int), .int .u64 (e : Int)])).run Tryz.prog w = .ok (.bool (decide (x = y))) w := by
 have u4 := Tryz.underlying25
 have a4 := Tryz.isAgg25
 have z4 := Tryz.sizeOf25
 have hS : Tryz.prog.underlying 32 = some (.struct (Tryz.prog.fieldsOf 32)) := by kernel_rfl
 have hp : Tryz.prog.stoodInHeld 32 = false := by kernel_rfl
 rw [run_eql_struct, show (10000 : Nat) = 9999 + 1 from rfl, run_equalIn_agg w 9999 32 _ _ hS hp]
 simp only [Program.fieldsOf, Tryz.underlying32]
 go_simp
 by_cases h : x = y
 ·simp [h]
 ·simp [h]
  omega
theorem setmeta_st (S : Sd) (V : Sv) (m : Mt) : (St.setMeta S V m).2.1.st = V.st := by
 unfold St.setMeta
 split
 ·rfl
 ·rfl
theorem hseal_any (h : NdAt w X S Y V nb ni now grace) (hN : Nrm V) (frm : Int) (mi no : Nat) (A : Option Addr) (n c : Nat) (l : List It) (hg : (Mq.mk 6 frm ni mi no A n c).Good l) (hr : Row w.heap.size w A n 5 (itc l)) (h1 : 1 ≤ no) (hmc : V.M.v.cert ≤ 281474976710656 ∧ V.M.v.at_ ≤ 281474976710656 ∧ V.M.v.lease ≤ 281474976710656) :
  Calls Tryz.prog 16 #[.pointer (some ⟨nb, 0, none⟩), .agg #[.int .i64 6, .int .i64 frm, .int .i64 ni, .int .u64 (mi : Int), .int .u64 (no : Int), .slice A n c]] w (HPost X Y w (St.seal S V no).1 (St.seal S V no).2.1 nb ni now grace frm mi (St.seal S V no).2.2) := by
 obtain ⟨R, hR⟩ : ∃ R, R = St.seal S V no := ⟨_, rfl⟩
 rw [← hR]
 unfold St.seal at hR
 have HR := Lib.hid hR
 have HH := Lib.hid h
 have HNO := Lib.hid hg.no
 clear hR
 have hb1 := (Below.refl w.heap.size w).alloc (Nat.le_refl _) (.cells #[.pointer (some ⟨nb, 0, none⟩)] 42)
 have hb2 := hb1.alloc (by simp) (.cells #[.int .i64 6, .int .i64 frm, .int .i64 ni, .int .u64 (mi : Int), .int .u64 (no : Int), .slice A n c] 47)
 have hx0 := (BoxO.new w #[.pointer (some ⟨nb, 0, none⟩)] 42).alloc (.cells #[.int .i64 6, .int .i64 frm, .int .i64 ni, .int .u64 (mi : Int), .int .u64 (no : Int), .slice A n c] 47)
 have hx1 := BoxO.new (w.alloc (.cells #[.pointer (some ⟨nb, 0, none⟩)] 42)) #[.int .i64 6, .int .i64 frm, .int .i64 ni, .int .u64 (mi : Int), .int .u64 (no : Int), .slice A n c] 47
 rw [World.size_alloc] at hx1
 have h2 := h.below hb2
 have hmf : ∀ (fn : Fn) (first cap : Array Value) (w : World), (Instr.makeFunc fn first cap).run Tryz.prog w = .ok (.func fn first cap) w := fun _ _ _ _ => rfl
 obtain ⟨W, hW⟩ : ∃ W, W = (w.alloc (.cells #[.pointer (some ⟨nb, 0, none⟩)] 42)).alloc (.cells #[.int .i64 6, .int .i64 frm, .int .i64 ni, .int .u64 (mi : Int), .int .u64 (no : Int), .slice A n c] 47) := ⟨_, rfl⟩
 obtain ⟨g0, hg0⟩ : ∃ g0, g0 = w.heap.size := ⟨_, rfl⟩
 rw [← hW] at hb2 hx0 hx1 h2
 rw [← hg0] at hx0 hx1
 have hmo := fun W' (hb : Below W.heap.size W W') => mok_yes _ l W' hg ((((hr.below hb2).up hb2.size).below hb).up hb.size)
 unfold Mq.val at hmo
 simp only at hmo
 have HMO := Lib.hid hmo
 have H2 := Lib.hid h2
 have HX := Lib.hid (And.intro hx0 hx1)
 have HB := Lib.hid hb2
 have HW := Lib.hid (And.intro hW hg0)
 have HROW := Lib.hid ((hr.below hb2).up hb2.size)
 have HL := Lib.hid (And.intro h.at_.lt (And.intro h.box.lt h.at_.dm.env.base))
 have HK := Lib.hid (fun W' (hb : Below W.heap.size W W') => And.intro (hx0.below hb) (And.intro (hx1.below hb) (h2.below hb)))
 clear hmo h2 hx0 hx1 hb1 hb2 hW hg0 hr h hg
 go_enter Tryz.func16, Tryz.ntmps16
 go_wp2_with fail
 rw [← HW.out.1, ← HW.out.2]
 refine wp_region_held_drew (S := fun w' => Below W.heap.size W w') rfl (below_drew (Below.refl _ _)) (fun hSw => ?_)
 refine wpT (i := 0) (v := ?vhse0) ?hhse0 hSw ?khse0
 case hhse0 => (intro w hSw; (obtain ⟨x, y, z⟩ := HK.out _ hSw; have x0 := x.cell 0; have y0 := y.cell 0; have y1 := y.cell 1; have y2 := y.cell 2; have y3 := y.cell 3; have y4 := y.cell 4; have y5 := y.cell 5; have z0 := z.box.cell 0; simp only [gE0, gE1] at x0 y0 y1 y2 y3 y4 y5 z0; clear x y z); go_simp; try (with_reducible rfl))
 go_simp
 refine wpAnyH_ready (rs := [1]) (by kernel_rfl) (by simp) ?_
 refine AllReadyH.cons rfl (fun K hK => ?_) AllReadyH.nil
 go_simp
 with_reducible refine (HMO.out _ hSw).mono ?_
 rintro e w3 ⟨rfl, hb3⟩
 go_simp
 refine hK.out _ _ (later_ hSw hb3) (fun hSn => ?_)
 clear hK K hSw
 have hSw := hSn
 clear hSn
 go_simp
 refine wpT (i := 2) (v := ?vhse2) ?hhse2 hSw ?khse2
 case hhse2 => (intro w hSw; (obtain ⟨x, y, z⟩ := HK.out _ hSw; have x0 := x.cell 0; have y0 := y.cell 0; have y1 := y.cell 1; have y2 := y.cell 2; have y3 := y.cell 3; have y4 := y.cell 4; have y5 := y.cell 5; have z0 := z.box.cell 0; simp only [gE0, gE1] at x0 y0 y1 y2 y3 y4 y5 z0; clear x y z); go_simp; try (with_reducible rfl))
 go_simp
 refine wpT (i := 3) (v := ?vhse3) ?hhse3 hSw ?khse3
 case hhse3 => (intro w hSw; (obtain ⟨x, y, z⟩ := HK.out _ hSw; have x0 := x.cell 0; have y0 := y.cell 0; have y1 := y.cell 1; have y2 := y.cell 2; have y3 := y.cell 3; have y4 := y.cell 4; have y5 := y.cell 5; have z0 := z.box.cell 0; simp only [gE0, gE1] at x0 y0 y1 y2 y3 y4 y5 z0; clear x y z); go_simp; try (with_reducible rfl))
 go_simp
 refine wpT (i := 4) (v := ?vhse4) ?hhse4 hSw ?khse4
 case hhse4 => (intro w hSw; (obtain ⟨x, y, z⟩ := HK.out _ hSw; have x0 := x.cell 0; have y0 := y.cell 0; have y1 := y.cell 1; have y2 := y.cell 2; have y3 := y.cell 3; have y4 := y.cell 4; have y5 := y.cell 5; have z0 := z.box.cell 0; simp only [gE0, gE1] at x0 y0 y1 y2 y3 y4 y5 z0; clear x y z); go_simp; try (with_reducible rfl))
 go_simp
 refine wpT (i := 5) (v := ?vhse5) ?hhse5 hSw ?khse5
 case hhse5 => (intro w hSw; (obtain ⟨x, y, z⟩ := HK.out _ hSw; have x0 := x.cell 0; have y0 := y.cell 0; have y1 := y.cell 1; have y2 := y.cell 2; have y3 := y.cell 3; have y4 := y.cell 4; have y5 := y.cell 5; have z0 := z.box.cell 0; simp only [gE0, gE1] at x0 y0 y1 y2 y3 y4 y5 z0; clear x y z); go_simp; try (with_reducible rfl))
 go_simp
 refine wpT (i := 6) (v := ?vhse6) ?hhse6 hSw ?khse6
 case hhse6 => (intro w hSw; (obtain ⟨x, y, z⟩ := HK.out _ hSw; have x0 := x.cell 0; have y0 := y.cell 0; have y1 := y.cell 1; have y2 := y.cell 2; have y3 := y.cell 3; have y4 := y.cell 4; have y5 := y.cell 5; have z0 := z.box.cell 0; simp only [gE0, gE1] at x0 y0 y1 y2 y3 y4 y5 z0; clear x y z); go_simp; try (with_reducible rfl))
 go_simp
 refine wpT (i := 7) (v := ?vhse7) ?hhse7 hSw ?khse7
 case hhse7 => (intro w hSw; (obtain ⟨x, y, z⟩ := HK.out _ hSw; have x0 := x.cell 0; have y0 := y.cell 0; have y1 := y.cell 1; have y2 := y.cell 2; have y3 := y.cell 3; have y4 := y.cell 4; have y5 := y.cell 5; have z0 := z.box.cell 0; simp only [gE0, gE1] at x0 y0 y1 y2 y3 y4 y5 z0; clear x y z); go_simp; try (with_reducible rfl))
 go_simp
 refine wpT (i := 8) (v := ?vhse8) ?hhse8 hSw ?khse8
 case hhse8 => (intro w hSw; (obtain ⟨x, y, z⟩ := HK.out _ hSw; have x0 := x.cell 0; have y0 := y.cell 0; have y1 := y.cell 1; have y2 := y.cell 2; have y3 := y.cell 3; have y4 := y.cell 4; have y5 := y.cell 5; have z0 := z.box.cell 0; simp only [gE0, gE1] at x0 y0 y1 y2 y3 y4 y5 z0; clear x y z); go_simp; try (with_reducible rfl))
 go_simp
 refine wpT (i := 9) (v := ?vhse9) ?hhse9 hSw ?khse9
 case hhse9 => (intro w hSw; (obtain ⟨x, y, z⟩ := HK.out _ hSw; have x0 := x.cell 0; have y0 := y.cell 0; have y1 := y.cell 1; have y2 := y.cell 2; have y3 := y.cell 3; have y4 := y.cell 4; have y5 := y.cell 5; have z0 := z.box.cell 0; simp only [gE0, gE1] at x0 y0 y1 y2 y3 y4 y5 z0; clear x y z); go_simp; try (with_reducible rfl))
 go_simp
 refine wpT (i := 10) (v := ?vhse10) ?hhse10 hSw ?khse10
 case hhse10 => (intro w hSw; (obtain ⟨x, y, z⟩ := HK.out _ hSw; have x0 := x.cell 0; have y0 := y.cell 0; have y1 := y.cell 1; have y2 := y.cell 2; have y3 := y.cell 3; have y4 := y.cell 4; have y5 := y.cell 5; have z0 := z.box.cell 0; simp only [gE0, gE1] at x0 y0 y1 y2 y3 y4 y5 z0; clear x y z); go_simp; try (with_reducible rfl))
 go_simp
 refine wpT (i := 11) (v := ?vhse11) ?hhse11 hSw ?khse11
 case hhse11 => (intro w hSw; (obtain ⟨x, y, z⟩ := HK.out _ hSw; have x0 := x.cell 0; have y0 := y.cell 0; have y1 := y.cell 1; have y2 := y.cell 2; have y3 := y.cell 3; have y4 := y.cell 4; have y5 := y.cell 5; have z0 := z.box.cell 0; simp only [gE0, gE1] at x0 y0 y1 y2 y3 y4 y5 z0; clear x y z); go_simp; try (with_reducible rfl))
 go_simp
 refine wpAnyH_done (by kernel_rfl) ?_ _
 have hb4 := later_ (below_drew (Below.refl W.heap.size W)) hb3
 clear hSw hb3 HMO
 obtain ⟨x, y, z⟩ := HK.out _ hb4
 have x0 := x.cell 0
 have z1 := z.box.cell 1
 simp only [gE0, gE1] at x0 z1
 have HME := Lib.hid (smeta_any z.at_ (by have := hN.files; omega))
 have HB4 := Lib.hid hb4
 clear x y z hb4
 go_wp2_with fail
 with_reducible refine HME.out.mono ?_
 rintro e w4 ⟨rfl, hb5⟩
 obtain ⟨mt, hmt⟩ : ∃ mt, mt = St.meta_ V := ⟨_, rfl⟩
 have HB5 := Lib.hid (later_ HB4.out hb5)
 have hb6 := later_ HB5.out ((Below.refl w4.heap.size w4).alloc (Nat.le_refl _) (.cells #[.int .u64 (mt.floor : Int), .int .u64 (mt.cert : Int), .int .u64 (mt.at_ : Int), .int .u64 (mt.lease : Int)] 32))
 have HX6 := Lib.hid (BoxO.new w4 #[.int .u64 (mt.floor : Int), .int .u64 (mt.cert : Int), .int .u64 (mt.at_ : Int), .int .u64 (mt.lease : Int)] 32)
 have HB6 := Lib.hid hb6
 rw [← hmt]
 unfold Mt.val
 have HMT := Lib.hid hmt
 clear hmt hb5 HME x0 z1 hb6
 obtain ⟨x, y, z⟩ := HK.out _ HB6.out
 have x0 := x.cell 0
 have y0 := y.cell 0
 have y1 := y.cell 1
 have y3 := y.cell 3
 have y4 := y.cell 4
 have y5 := y.cell 5
 have z0 := z.box.cell 0
 have z1 := z.box.cell 1
 simp only [gE0, gE1] at x0 y0 y1 y3 y4 y5 z0 z1
 have HSL := Lib.hid (fseal_any mt no (w4.alloc (.cells #[.int .u64 (mt.floor : Int), .int .u64 (mt.cert : Int), .int .u64 (mt.at_ : Int), .int .u64 (mt.lease : Int)] 32)))
 unfold Mt.val at HSL
 simp only at HSL
 clear x y z
 by_cases hlt : no < mt.floor
 ·have hsl := HSL.out
  rw [if_pos (.inl hlt)] at hsl
  have HS2 := Lib.hid hsl
  clear hsl HSL
  go_wp2_with fail
  with_reducible refine HS2.out.mono ?_
  rintro e w7 ⟨rfl, hb7⟩
  have hb8 := (later_ HB6.out hb7)
  have hb9 := later_ hb8 ((Below.refl w7.heap.size w7).alloc (Nat.le_refl _) (.cells #[.int .u64 0, .int .u64 0, .int .u64 0, .int .u64 0] 32))
  have hm9 := (HX6.out.below hb7).alloc (.cells #[.int .u64 0, .int .u64 0, .int .u64 0, .int .u64 0] 32)
  obtain ⟨x, y, z⟩ := HK.out _ hb9
  have q0 := x.cell 0
  have q1 := y.cell 1
  have q3 := y.cell 3
  have p0 := z.box.cell 0
  have m0 := hm9.cell 0
  simp only [gE0, gE1] at q0 q1 q3 p0 m0
  have HAN := Lib.hid (answer_any g0 (g0 + 1) nb frm ni 3 mi mt.floor none 0 0 _ q0 p0 q1 q3)
  have hR := HR.out
  rw [show V.M.v.floor = mt.floor by rw [HMT.out]; rfl, if_pos hlt] at hR
  have HZ : Hid (∀ e w', e = .returned (.slice (some ⟨(w7.alloc (.cells #[.int .u64 0, .int .u64 0, .int .u64 0, .int .u64 0] 32)).heap.size, 0, none⟩) 1 1) → Below (w7.alloc (.cells #[.int .u64 0, .int .u64 0, .int .u64 0, .int .u64 0] 32)).heap.size (w7.alloc (.cells #[.int .u64 0, .int .u64 0, .int .u64 0, .int .u64 0] 32)) w' → Answ w' (w7.alloc (.cells #[.int .u64 0, .int .u64 0, .int .u64 0, .int .u64 0] 32)).heap.size 3 ni frm mi mt.floor none 0 0 → HPost X Y w R.1 R.2.1 nb ni now grace frm mi R.2.2 e w') := Lib.hid (by
   intro e w' h1 h2 h3
   rw [hR, h1]
   exact HH.out.told (HB.out.trans (hb9.mono HB.out.size)) Row.nil_ (fun a ha => by cases ha) h2 h3)
  clear hR x y z hm9 hb7 hb8 hb9 HS2 x0 y0 y1 y3 y4 y5 z0 z1
  go_wp2_with fail
  with_reducible refine HAN.out.mono ?_
  rintro e w8 ⟨rfl, h8, ha8⟩
  have hy := HZ.out _ _ rfl h8 ha8
  simp only [World.size_alloc] at hy
  have HY := Lib.hid hy
  clear h8 ha8 HZ HAN hy
  go_wp2
  go_ret
  exact HY.out
 ·have hsl := HSL.out
  rw [if_neg (by have := HNO.out; omega)] at hsl
  have HS2 := Lib.hid hsl
  clear hsl HSL
  go_wp2_with fail
  with_reducible refine HS2.out.mono ?_
  rintro e w7 ⟨rfl, hb7⟩
  have hb8 := later_ HB6.out hb7
  have hb9 := later_ hb8 ((Below.refl w7.heap.size w7).alloc (Nat.le_refl _) (.cells #[.int .u64 (no : Int), .int .u64 (mt.cert : Int), .int .u64 (mt.at_ : Int), .int .u64 (mt.lease : Int)] 32))
  have hm9 := (HX6.out.below hb7).alloc (.cells #[.int .u64 (no : Int), .int .u64 (mt.cert : Int), .int .u64 (mt.at_ : Int), .int .u64 (mt.lease : Int)] 32)
  have hn9 := BoxO.new w7 #[.int .u64 (no : Int), .int .u64 (mt.cert : Int), .int .u64 (mt.at_ : Int), .int .u64 (mt.lease : Int)] 32
  obtain ⟨W9, hW9⟩ : ∃ W9, W9 = w7.alloc (.cells #[.int .u64 (no : Int), .int .u64 (mt.cert : Int), .int .u64 (mt.at_ : Int), .int .u64 (mt.lease : Int)] 32) := ⟨_, rfl⟩
  rw [← hW9] at hb9 hm9 hn9
  obtain ⟨x, y, z⟩ := HK.out _ hb9
  have hbw : Below w.heap.size w W9 := HB.out.trans (hb9.mono HB.out.size)
  obtain ⟨hl1, hl2, hl3⟩ := HL.out
  have hgx : ∀ g, w.heap.size ≤ g → g ∉ XY X Y := fun g hg hm => by have := hl1 g hm; omega
  have hg6 : w.heap.size ≤ w4.heap.size := Nat.le_trans HB.out.size HB5.out.size
  have hg7 : w.heap.size ≤ w7.heap.size := Nat.le_trans HB.out.size hb8.size
  have hS0 : BoxO W9.drew 42 g0 [.pointer (some ⟨nb, 0, none⟩)] ∧ BoxO W9.drew 32 w4.heap.size [.int .u64 (mt.floor : Int), .int .u64 (mt.cert : Int), .int .u64 (mt.at_ : Int), .int .u64 (mt.lease : Int)] ∧ BoxO W9.drew 32 w7.heap.size [.int .u64 (no : Int), .int .u64 (mt.cert : Int), .int .u64 (mt.at_ : Int), .int .u64 (mt.lease : Int)] ∧ BoxO W9.drew 100 nb [.int .i64 ni, .pointer (some ⟨Y.s, 0, none⟩), .int .u64 (now : Int), .int .u64 (grace : Int)] := ⟨x, hm9, hn9, z.box⟩
  have HS0 := Lib.hid hS0
  have HXY := Lib.hid (And.intro x (And.intro y z))
  have HW9 := Lib.hid hW9
  have HBW := Lib.hid hbw
  have HGX := Lib.hid (And.intro hgx (And.intro hg6 hg7))
  have hR := HR.out
  rw [show V.M.v.floor = mt.floor by rw [HMT.out]; rfl, if_neg hlt] at hR
  clear hb7 hb8 hb9 hm9 hn9 hbw hgx hg6 hg7 hS0 x y z hW9 hl1 hl2 hl3 x0 y0 y1 y3 y4 y5 z0 z1 HS2
  have hqe := fun W' => mt_eql no mt.floor mt.cert mt.at_ mt.lease W'
  by_cases heq : no = mt.floor
  ·rw [if_pos heq] at hR
   rw [decide_eq_true heq] at hqe
   have HR2 := Lib.hid hR
   have HEQ := Lib.hid heq
   have HQE := Lib.hid hqe
   clear hR heq hqe hlt
   go_wp2_with fail
   rw [← HW9.out]
   refine wp_region_held_drew (S := fun w' => BoxO w' 42 g0 [.pointer (some ⟨nb, 0, none⟩)] ∧ BoxO w' 32 w4.heap.size [.int .u64 (mt.floor : Int), .int .u64 (mt.cert : Int), .int .u64 (mt.at_ : Int), .int .u64 (mt.lease : Int)] ∧ BoxO w' 32 w7.heap.size [.int .u64 (no : Int), .int .u64 (mt.cert : Int), .int .u64 (mt.at_ : Int), .int .u64 (mt.lease : Int)] ∧ BoxO w' 100 nb [.int .i64 ni, .pointer (some ⟨Y.s, 0, none⟩), .int .u64 (now : Int), .int .u64 (grace : Int)]) rfl HS0.out (fun hSw => ?_)
   refine wpT (i := 0) (v := ?vhsa0) ?hhsa0 hSw ?khsa0
   case hhsa0 => (intro w hSw; (obtain ⟨q1, q2, q3, q4⟩ := hSw; have x0 := q1.cell 0; have z1 := q4.cell 1; have m0 := q2.cell 0; have m1 := q2.cell 1; have m2 := q2.cell 2; have m3 := q2.cell 3; have n0 := q3.cell 0; have n1 := q3.cell 1; have n2 := q3.cell 2; have n3 := q3.cell 3; simp only [gE0, gE1] at x0 z1 m0 m1 m2 m3 n0 n1 n2 n3; have hqe := HQE.out; clear q1 q2 q3 q4); go_simp; try (with_reducible rfl))
   go_simp
   refine wpT (i := 1) (v := ?vhsa1) ?hhsa1 hSw ?khsa1
   case hhsa1 => (intro w hSw; (obtain ⟨q1, q2, q3, q4⟩ := hSw; have x0 := q1.cell 0; have z1 := q4.cell 1; have m0 := q2.cell 0; have m1 := q2.cell 1; have m2 := q2.cell 2; have m3 := q2.cell 3; have n0 := q3.cell 0; have n1 := q3.cell 1; have n2 := q3.cell 2; have n3 := q3.cell 3; simp only [gE0, gE1] at x0 z1 m0 m1 m2 m3 n0 n1 n2 n3; have hqe := HQE.out; clear q1 q2 q3 q4); go_simp; try (with_reducible rfl))
   go_simp
   refine wpT (i := 2) (v := ?vhsa2) ?hhsa2 hSw ?khsa2
   case hhsa2 => (intro w hSw; (obtain ⟨q1, q2, q3, q4⟩ := hSw; have x0 := q1.cell 0; have z1 := q4.cell 1; have m0 := q2.cell 0; have m1 := q2.cell 1; have m2 := q2.cell 2; have m3 := q2.cell 3; have n0 := q3.cell 0; have n1 := q3.cell 1; have n2 := q3.cell 2; have n3 := q3.cell 3; simp only [gE0, gE1] at x0 z1 m0 m1 m2 m3 n0 n1 n2 n3; have hqe := HQE.out; clear q1 q2 q3 q4); go_simp; try (with_reducible rfl))
   go_simp
   refine wpT (i := 3) (v := ?vhsa3) ?hhsa3 hSw ?khsa3
   case hhsa3 => (intro w hSw; (obtain ⟨q1, q2, q3, q4⟩ := hSw; have x0 := q1.cell 0; have z1 := q4.cell 1; have m0 := q2.cell 0; have m1 := q2.cell 1; have m2 := q2.cell 2; have m3 := q2.cell 3; have n0 := q3.cell 0; have n1 := q3.cell 1; have n2 := q3.cell 2; have n3 := q3.cell 3; simp only [gE0, gE1] at x0 z1 m0 m1 m2 m3 n0 n1 n2 n3; have hqe := HQE.out; clear q1 q2 q3 q4); go_simp; try (with_reducible rfl))
   go_simp
   refine wpT0 (i := 4) hSw ?_
   go_simp
   refine wpT0 (i := 5) hSw ?_
   go_simp
   refine wpT0 (i := 6) hSw ?_
   go_simp
   refine wpT0 (i := 7) hSw ?_
   go_simp
   refine wpT0 (i := 8) hSw ?_
   go_simp
   refine wpT0 (i := 9) hSw ?_
   go_simp
   refine wpT0 (i := 10) hSw ?_
   go_simp
   refine wpT (i := 11) (v := ?vhsa11) ?hhsa11 hSw ?khsa11
   case hhsa11 => (intro w hSw; (obtain ⟨q1, q2, q3, q4⟩ := hSw; have x0 := q1.cell 0; have z1 := q4.cell 1; have m0 := q2.cell 0; have m1 := q2.cell 1; have m2 := q2.cell 2; have m3 := q2.cell 3; have n0 := q3.cell 0; have n1 := q3.cell 1; have n2 := q3.cell 2; have n3 := q3.cell 3; simp only [gE0, gE1] at x0 z1 m0 m1 m2 m3 n0 n1 n2 n3; have hqe := HQE.out; clear q1 q2 q3 q4); go_simp; try (with_reducible rfl))
   go_simp
   refine wpAnyH_done (by kernel_rfl) ?_ _
   clear hSw HS0
   have hd9 : Below W9.heap.size W9 W9.drew := below_drew (Below.refl _ _)
   obtain ⟨Wd, hWd⟩ : ∃ Wd, Wd = W9.drew := ⟨_, rfl⟩
   rw [← hWd] at hd9
   have HD9 := Lib.hid hd9
   have HWD := Lib.hid hWd
   rw [← HWD.out]
   clear hd9 hWd
   have HK9 : Hid (∀ W', Below Wd.heap.size Wd W' → BoxO W' 42 g0 [.pointer (some ⟨nb, 0, none⟩)] ∧ BoxO W' 47 (g0 + 1) [.int .i64 6, .int .i64 frm, .int .i64 ni, .int .u64 (mi : Int), .int .u64 (no : Int), .slice A n c] ∧ NdAt W' X S Y V nb ni now grace) := Lib.hid (fun W' hb => ⟨(HXY.out.1.below HD9.out).below hb, (HXY.out.2.1.below HD9.out).below hb, (HXY.out.2.2.below HD9.out).below hb⟩)
   have HST := Lib.hid (fun W' (hb : Below Wd.heap.size Wd W') => sstate_any (HK9.out W' hb).2.2.at_ (by have := hN.len; omega))
   have HAN := Lib.hid (fun W' (hb : Below Wd.heap.size Wd W') B nn cc => (by
    obtain ⟨q1, q2, q3⟩ := HK9.out W' hb
    exact answer_any g0 (g0 + 1) nb frm ni 7 mi no B nn cc W' (q1.cell 0) (q3.box.cell 0) (q2.cell 1) (q2.cell 3) : Calls Tryz.prog 42 #[.int .i64 7, .int .u64 (no : Int), .slice B nn cc, .pointer (some ⟨g0, 0, none⟩), .pointer (some ⟨g0 + 1, 0, none⟩)] W' fun e w' => e = .returned (.slice (some ⟨W'.heap.size, 0, none⟩) 1 1) ∧ Below W'.heap.size W' w' ∧ Answ w' W'.heap.size 7 ni frm mi no B nn cc))
   go_wp2_with fail
   refine wp_region_held_drew (S := fun w' => Below Wd.heap.size Wd w') rfl (below_drew (Below.refl _ _)) (fun hSw => ?_)
   refine wpT (i := 0) (v := ?vhsb0) ?hhsb0 hSw ?khsb0
   case hhsb0 => (intro w hSw; (obtain ⟨x, y, z⟩ := HK9.out _ hSw; have x0 := x.cell 0; have y4 := y.cell 4; have z1 := z.box.cell 1; simp only [gE0, gE1] at x0 y4 z1; clear x y z); go_simp; try (with_reducible rfl))
   go_simp
   refine wpT (i := 1) (v := ?vhsb1) ?hhsb1 hSw ?khsb1
   case hhsb1 => (intro w hSw; (obtain ⟨x, y, z⟩ := HK9.out _ hSw; have x0 := x.cell 0; have y4 := y.cell 4; have z1 := z.box.cell 1; simp only [gE0, gE1] at x0 y4 z1; clear x y z); go_simp; try (with_reducible rfl))
   go_simp
   refine wpT (i := 2) (v := ?vhsb2) ?hhsb2 hSw ?khsb2
   case hhsb2 => (intro w hSw; (obtain ⟨x, y, z⟩ := HK9.out _ hSw; have x0 := x.cell 0; have y4 := y.cell 4; have z1 := z.box.cell 1; simp only [gE0, gE1] at x0 y4 z1; clear x y z); go_simp; try (with_reducible rfl))
   go_simp
   refine wpT (i := 3) (v := ?vhsb3) ?hhsb3 hSw ?khsb3
   case hhsb3 => (intro w hSw; (obtain ⟨x, y, z⟩ := HK9.out _ hSw; have x0 := x.cell 0; have y4 := y.cell 4; have z1 := z.box.cell 1; simp only [gE0, gE1] at x0 y4 z1; clear x y z); go_simp; try (with_reducible rfl))
   go_simp
   refine wpT (i := 4) (v := ?vhsb4) ?hhsb4 hSw ?khsb4
   case hhsb4 => (intro w hSw; (obtain ⟨x, y, z⟩ := HK9.out _ hSw; have x0 := x.cell 0; have y4 := y.cell 4; have z1 := z.box.cell 1; simp only [gE0, gE1] at x0 y4 z1; clear x y z); go_simp; try (with_reducible rfl))
   go_simp
   refine wpT (i := 5) (v := ?vhsb5) ?hhsb5 hSw ?khsb5
   case hhsb5 => (intro w hSw; (obtain ⟨x, y, z⟩ := HK9.out _ hSw; have x0 := x.cell 0; have y4 := y.cell 4; have z1 := z.box.cell 1; simp only [gE0, gE1] at x0 y4 z1; clear x y z); go_simp; try (with_reducible rfl))
   go_simp
   refine wpT (i := 6) (v := ?vhsb6) ?hhsb6 hSw ?khsb6
   case hhsb6 => (intro w hSw; (obtain ⟨x, y, z⟩ := HK9.out _ hSw; have x0 := x.cell 0; have y4 := y.cell 4; have z1 := z.box.cell 1; simp only [gE0, gE1] at x0 y4 z1; clear x y z); go_simp; try (with_reducible rfl))
   go_simp
   refine wpT (i := 8) (v := ?vhsb8) ?hhsb8 hSw ?khsb8
   case hhsb8 => (intro w hSw; (obtain ⟨x, y, z⟩ := HK9.out _ hSw; have x0 := x.cell 0; have y4 := y.cell 4; have z1 := z.box.cell 1; simp only [gE0, gE1] at x0 y4 z1; clear x y z); go_simp; try (with_reducible rfl))
   go_simp
   refine wpT (i := 9) (v := ?vhsb9) ?hhsb9 hSw ?khsb9
   case hhsb9 => (intro w hSw; (obtain ⟨x, y, z⟩ := HK9.out _ hSw; have x0 := x.cell 0; have y4 := y.cell 4; have z1 := z.box.cell 1; simp only [gE0, gE1] at x0 y4 z1; clear x y z); go_simp; try (with_reducible rfl))
   go_simp
   refine wpAnyH_ready (rs := [7]) (by kernel_rfl) (by simp) ?_
   refine AllReadyH.cons rfl (fun K hK => ?_) AllReadyH.nil
   go_simp
   with_reducible refine (HST.out _ hSw).mono ?_
   rintro e w10 ⟨A1, c1, rfl, ho1, hb10⟩; have HUP := Lib.hid (supto_any A1 Y.A.n c1 V.st no w10 (by have := (HK9.out _ hSw).2.2.at_.alen; have := hN.len; omega) (Row.own ho1)); clear ho1
   go_simp
   refine hK.out _ _ (later_ hSw hb10) (fun hSn => ?_)
   clear hK K hSw
   have hSw := hSn
   clear hSn
   go_simp
   refine wpAnyH_ready (rs := [10]) (by kernel_rfl) (by simp) ?_
   refine AllReadyH.cons rfl (fun K hK => ?_) AllReadyH.nil
   go_simp
   with_reducible refine HUP.out.mono ?_
   rintro e w11 ⟨A2, k2, rfl, hk2, hi2, hb11⟩; clear hk2 HUP
   go_simp
   refine hK.out _ _ (later_ hSw hb11) (fun hSn => ?_)
   clear hK K hSw
   have hSw := hSn
   clear hSn
   go_simp
   refine wpAnyH_ready (rs := [11]) (by kernel_rfl) (by simp) ?_
   refine AllReadyH.cons rfl (fun K hK => ?_) AllReadyH.nil
   go_simp
   with_reducible refine (HAN.out _ hSw A2 k2 k2).mono ?_
   rintro e w12 ⟨rfl, hb12, ha12⟩
   go_simp
   refine hK.out _ _ (later_ hSw hb12) (fun hSn => ?_)
   clear hK K hSw
   have hSw := hSn
   clear hSn
   go_simp
   refine wpT (i := 12) (v := ?vhsb12) ?hhsb12 hSw ?khsb12
   case hhsb12 => (intro w hSw; (obtain ⟨x, y, z⟩ := HK9.out _ hSw; have x0 := x.cell 0; have y4 := y.cell 4; have z1 := z.box.cell 1; simp only [gE0, gE1] at x0 y4 z1; clear x y z); go_simp; try (with_reducible rfl))
   go_simp
   refine wpAnyH_done (by kernel_rfl) ?_ _
   have hz : HPost X Y w R.1 R.2.1 nb ni now grace frm mi R.2.2 (.returned (.slice (some ⟨w11.heap.size, 0, none⟩) 1 1)) w12 := by
    have hb911 : Below Wd.heap.size Wd w11 := later_ (later_ (below_drew (Below.refl _ _)) hb10) hb11
    have hlow : ∀ a, A2 = some a → Wd.heap.size ≤ a.block := fun a ha => Nat.le_trans (later_ (below_drew (Below.refl _ _)) hb10).size (hi2.low a ha)
    have hrow := hi2.row
    skip
    have hn : HPost X Y Wd S V nb ni now grace frm mi (some (7, no, upto V.st no)) (.returned (.slice (some ⟨w11.heap.size, 0, none⟩) 1 1)) w12 := (HXY.out.2.2.below HD9.out).told hb911 hrow hlow hb12 ha12
    rw [HR2.out]
    exact hn.up rfl rfl (Chg.of_below (HBW.out.trans (HD9.out.mono HBW.out.size)) _) (fun g hg => .inl hg) (.inl rfl)
   have HZ := Lib.hid hz
   clear hz hSw hb10 hb11 hi2 hb12 ha12 HAN HST
   go_wp2
   go_ret
   exact HZ.out
  ·rw [if_neg heq] at hR
   rw [decide_eq_false heq] at hqe
   have hmm : St.mayMeta { mt with floor := no } (St.meta_ V) := by
    rw [HMT.out]
    obtain ⟨q1, q2, q3⟩ := hmc
    exact ⟨⟨HNO.out, fun e => by have e2 : no = 0 := e; omega⟩, ⟨q1, fun e => e⟩, ⟨q2, fun e => e⟩, ⟨q3, fun e => e⟩⟩
   have hsm := fun W' (hb : Below W9.heap.size W9 W') => ssetmeta_any (HXY.out.2.2.below hb).at_ { mt with floor := no } hmm hN.files (by have := hN.count; omega) hN.name
   have hvs := setmeta_st S V { mt with floor := no }
   have ee : ({ St.meta_ V with floor := no } : Mt) = { mt with floor := no } := by rw [HMT.out]
   rw [ee] at hR
   obtain ⟨r, hr⟩ : ∃ r, r = St.setMeta S V { mt with floor := no } := ⟨_, rfl⟩
   rw [← hr] at hsm hvs hR
   obtain ⟨S1, V1, er⟩ := r
   unfold SvPostA Mt.val at hsm
   simp only at hsm hvs hR
   have HSM := Lib.hid hsm
   have HVS := Lib.hid hvs
   have HR2 := Lib.hid hR
   have HQE := Lib.hid hqe
   clear hR heq hqe hlt hsm hvs hr ee hmm
   obtain ⟨be, hbe⟩ : ∃ be : Bool, ((er : Int) == 0) = be := ⟨_, rfl⟩
   have HBE := Lib.hid hbe
   go_wp2_with fail
   rw [← HW9.out]
   refine wp_region_held_drew (S := fun w' => BoxO w' 42 g0 [.pointer (some ⟨nb, 0, none⟩)] ∧ BoxO w' 32 w4.heap.size [.int .u64 (mt.floor : Int), .int .u64 (mt.cert : Int), .int .u64 (mt.at_ : Int), .int .u64 (mt.lease : Int)] ∧ BoxO w' 32 w7.heap.size [.int .u64 (no : Int), .int .u64 (mt.cert : Int), .int .u64 (mt.at_ : Int), .int .u64 (mt.lease : Int)] ∧ BoxO w' 100 nb [.int .i64 ni, .pointer (some ⟨Y.s, 0, none⟩), .int .u64 (now : Int), .int .u64 (grace : Int)]) rfl HS0.out (fun hSw => ?_)
   refine wpT (i := 0) (v := ?vhsc0) ?hhsc0 hSw ?khsc0
   case hhsc0 => (intro w hSw; (obtain ⟨q1, q2, q3, q4⟩ := hSw; have x0 := q1.cell 0; have z1 := q4.cell 1; have m0 := q2.cell 0; have m1 := q2.cell 1; have m2 := q2.cell 2; have m3 := q2.cell 3; have n0 := q3.cell 0; have n1 := q3.cell 1; have n2 := q3.cell 2; have n3 := q3.cell 3; simp only [gE0, gE1] at x0 z1 m0 m1 m2 m3 n0 n1 n2 n3; have hqe := HQE.out; clear q1 q2 q3 q4); go_simp; try (with_reducible rfl))
   go_simp
   refine wpT (i := 1) (v := ?vhsc1) ?hhsc1 hSw ?khsc1
   case hhsc1 => (intro w hSw; (obtain ⟨q1, q2, q3, q4⟩ := hSw; have x0 := q1.cell 0; have z1 := q4.cell 1; have m0 := q2.cell 0; have m1 := q2.cell 1; have m2 := q2.cell 2; have m3 := q2.cell 3; have n0 := q3.cell 0; have n1 := q3.cell 1; have n2 := q3.cell 2; have n3 := q3.cell 3; simp only [gE0, gE1] at x0 z1 m0 m1 m2 m3 n0 n1 n2 n3; have hqe := HQE.out; clear q1 q2 q3 q4); go_simp; try (with_reducible rfl))
   go_simp
   refine wpT (i := 2) (v := ?vhsc2) ?hhsc2 hSw ?khsc2
   case hhsc2 => (intro w hSw; (obtain ⟨q1, q2, q3, q4⟩ := hSw; have x0 := q1.cell 0; have z1 := q4.cell 1; have m0 := q2.cell 0; have m1 := q2.cell 1; have m2 := q2.cell 2; have m3 := q2.cell 3; have n0 := q3.cell 0; have n1 := q3.cell 1; have n2 := q3.cell 2; have n3 := q3.cell 3; simp only [gE0, gE1] at x0 z1 m0 m1 m2 m3 n0 n1 n2 n3; have hqe := HQE.out; clear q1 q2 q3 q4); go_simp; try (with_reducible rfl))
   go_simp
   refine wpT (i := 3) (v := ?vhsc3) ?hhsc3 hSw ?khsc3
   case hhsc3 => (intro w hSw; (obtain ⟨q1, q2, q3, q4⟩ := hSw; have x0 := q1.cell 0; have z1 := q4.cell 1; have m0 := q2.cell 0; have m1 := q2.cell 1; have m2 := q2.cell 2; have m3 := q2.cell 3; have n0 := q3.cell 0; have n1 := q3.cell 1; have n2 := q3.cell 2; have n3 := q3.cell 3; simp only [gE0, gE1] at x0 z1 m0 m1 m2 m3 n0 n1 n2 n3; have hqe := HQE.out; clear q1 q2 q3 q4); go_simp; try (with_reducible rfl))
   go_simp
   refine wpT (i := 4) (v := ?vhsc4) ?hhsc4 hSw ?khsc4
   case hhsc4 => (intro w hSw; (obtain ⟨q1, q2, q3, q4⟩ := hSw; have x0 := q1.cell 0; have z1 := q4.cell 1; have m0 := q2.cell 0; have m1 := q2.cell 1; have m2 := q2.cell 2; have m3 := q2.cell 3; have n0 := q3.cell 0; have n1 := q3.cell 1; have n2 := q3.cell 2; have n3 := q3.cell 3; simp only [gE0, gE1] at x0 z1 m0 m1 m2 m3 n0 n1 n2 n3; have hqe := HQE.out; clear q1 q2 q3 q4); go_simp; try (with_reducible rfl))
   go_simp
   refine wpT (i := 5) (v := ?vhsc5) ?hhsc5 hSw ?khsc5
   case hhsc5 => (intro w hSw; (obtain ⟨q1, q2, q3, q4⟩ := hSw; have x0 := q1.cell 0; have z1 := q4.cell 1; have m0 := q2.cell 0; have m1 := q2.cell 1; have m2 := q2.cell 2; have m3 := q2.cell 3; have n0 := q3.cell 0; have n1 := q3.cell 1; have n2 := q3.cell 2; have n3 := q3.cell 3; simp only [gE0, gE1] at x0 z1 m0 m1 m2 m3 n0 n1 n2 n3; have hqe := HQE.out; clear q1 q2 q3 q4); go_simp; try (with_reducible rfl))
   go_simp
   refine wpT (i := 6) (v := ?vhsc6) ?hhsc6 hSw ?khsc6
   case hhsc6 => (intro w hSw; (obtain ⟨q1, q2, q3, q4⟩ := hSw; have x0 := q1.cell 0; have z1 := q4.cell 1; have m0 := q2.cell 0; have m1 := q2.cell 1; have m2 := q2.cell 2; have m3 := q2.cell 3; have n0 := q3.cell 0; have n1 := q3.cell 1; have n2 := q3.cell 2; have n3 := q3.cell 3; simp only [gE0, gE1] at x0 z1 m0 m1 m2 m3 n0 n1 n2 n3; have hqe := HQE.out; clear q1 q2 q3 q4); go_simp; try (with_reducible rfl))
   go_simp
   refine wpT (i := 7) (v := ?vhsc7) ?hhsc7 hSw ?khsc7
   case hhsc7 => (intro w hSw; (obtain ⟨q1, q2, q3, q4⟩ := hSw; have x0 := q1.cell 0; have z1 := q4.cell 1; have m0 := q2.cell 0; have m1 := q2.cell 1; have m2 := q2.cell 2; have m3 := q2.cell 3; have n0 := q3.cell 0; have n1 := q3.cell 1; have n2 := q3.cell 2; have n3 := q3.cell 3; simp only [gE0, gE1] at x0 z1 m0 m1 m2 m3 n0 n1 n2 n3; have hqe := HQE.out; clear q1 q2 q3 q4); go_simp; try (with_reducible rfl))
   go_simp
   refine wpT (i := 8) (v := ?vhsc8) ?hhsc8 hSw ?khsc8
   case hhsc8 => (intro w hSw; (obtain ⟨q1, q2, q3, q4⟩ := hSw; have x0 := q1.cell 0; have z1 := q4.cell 1; have m0 := q2.cell 0; have m1 := q2.cell 1; have m2 := q2.cell 2; have m3 := q2.cell 3; have n0 := q3.cell 0; have n1 := q3.cell 1; have n2 := q3.cell 2; have n3 := q3.cell 3; simp only [gE0, gE1] at x0 z1 m0 m1 m2 m3 n0 n1 n2 n3; have hqe := HQE.out; clear q1 q2 q3 q4); go_simp; try (with_reducible rfl))
   go_simp
   refine wpAnyH_ready (rs := [9]) (by kernel_rfl) (by simp) ?_
   refine AllReadyH.cons rfl (fun K hK => ?_) AllReadyH.nil
   go_simp
   with_reducible refine (HSM.out _ (by first | exact below_drew (Below.refl _ _) | exact Below.refl _ _)).mono ?_
   rintro e w10 ⟨rfl, hu⟩
   go_simp
   refine hK.out _ _ ⟨hSw.1.chg hu.c (HGX.out.1 _ (by have := HW.out.2; omega)), hSw.2.1.chg hu.c (HGX.out.1 _ HGX.out.2.1), hSw.2.2.1.chg hu.c (HGX.out.1 _ HGX.out.2.2), (HXY.out.2.2.below (below_drew (Below.refl _ _))).box.chg hu.c HXY.out.2.2.out⟩ (fun hSn => ?_)
   clear hK K hSw
   have hSw := hSn
   clear hSn
   go_simp
   refine wpT (i := 10) (v := ?vhsc10) ?hhsc10 hSw ?khsc10
   case hhsc10 => (intro w hSw; (obtain ⟨q1, q2, q3, q4⟩ := hSw; have x0 := q1.cell 0; have z1 := q4.cell 1; have m0 := q2.cell 0; have m1 := q2.cell 1; have m2 := q2.cell 2; have m3 := q2.cell 3; have n0 := q3.cell 0; have n1 := q3.cell 1; have n2 := q3.cell 2; have n3 := q3.cell 3; simp only [gE0, gE1] at x0 z1 m0 m1 m2 m3 n0 n1 n2 n3; have hqe := HQE.out; clear q1 q2 q3 q4); go_simp; try (with_reducible rfl))
   go_simp
   refine wpT (i := 11) (v := ?vhsc11) ?hhsc11 hSw ?khsc11
   case hhsc11 => (intro w hSw; (obtain ⟨q1, q2, q3, q4⟩ := hSw; have x0 := q1.cell 0; have z1 := q4.cell 1; have m0 := q2.cell 0; have m1 := q2.cell 1; have m2 := q2.cell 2; have m3 := q2.cell 3; have n0 := q3.cell 0; have n1 := q3.cell 1; have n2 := q3.cell 2; have n3 := q3.cell 3; simp only [gE0, gE1] at x0 z1 m0 m1 m2 m3 n0 n1 n2 n3; have hqe := HQE.out; clear q1 q2 q3 q4); go_simp; try (with_reducible rfl))
   go_simp
   refine wpAnyH_done (by kernel_rfl) ?_ _
   have hd9 : Below W9.heap.size W9 W9.drew := below_drew (Below.refl _ _)
   have hup := (HXY.out.2.2.below hd9).upd hu
   have hbw := HBW.out.trans (hd9.mono HBW.out.size)
   have HUP := Lib.hid (And.intro hup hbw)
   have hR := HR2.out
   cases be with
   | false =>
    rw [if_neg (fun e => by rw [e] at hbe; cases hbe)] at hR
    have HZ : Hid (HPost X Y w R.1 R.2.1 nb ni now grace frm mi R.2.2 (.returned (.slice none 0 0)) w10) := Lib.hid (by
     rw [hR]
     exact HUP.out.1.mute HUP.out.2)
    clear hR hbe hup hbw hd9 hu hSw HS0
    go_wp2
    go_ret
    exact HZ.out
   | true =>
    rw [if_pos (by have := eq_of_beq hbe; omega)] at hR
    obtain ⟨X1, Y1, e1, es1, h10, c10, f10, n10⟩ := hup
    have hx10 := (HXY.out.1.below hd9).chg c10 (HGX.out.1 _ (by have := HW.out.2; omega))
    have hy10 := (HXY.out.2.1.below hd9).chg c10 (HGX.out.1 _ (by have := HW.out.2; omega))
    have HN10 := Lib.hid (And.intro hx10 (And.intro hy10 h10))
    have HC10 := Lib.hid (And.intro e1 (And.intro es1 (And.intro c10 (And.intro f10 n10))))
    have HR3 := Lib.hid hR
    clear hR hbe hbw hd9 hu hSw HS0 e1 es1 h10 c10 f10 n10 hx10 hy10
    have HK9 : Hid (∀ W', Below w10.heap.size w10 W' → BoxO W' 42 g0 [.pointer (some ⟨nb, 0, none⟩)] ∧ BoxO W' 47 (g0 + 1) [.int .i64 6, .int .i64 frm, .int .i64 ni, .int .u64 (mi : Int), .int .u64 (no : Int), .slice A n c] ∧ NdAt W' X1 S1 Y1 V1 nb ni now grace) := Lib.hid (fun W' hb => ⟨HN10.out.1.below hb, HN10.out.2.1.below hb, HN10.out.2.2.below hb⟩)
    have HST := Lib.hid (fun W' (hb : Below w10.heap.size w10 W') => sstate_any (HK9.out W' hb).2.2.at_ (by rw [HVS.out]; have := hN.len; omega))
    have HAN := Lib.hid (fun W' (hb : Below w10.heap.size w10 W') B nn cc => (by
     obtain ⟨q1, q2, q3⟩ := HK9.out W' hb
     exact answer_any g0 (g0 + 1) nb frm ni 7 mi no B nn cc W' (q1.cell 0) (q3.box.cell 0) (q2.cell 1) (q2.cell 3) : Calls Tryz.prog 42 #[.int .i64 7, .int .u64 (no : Int), .slice B nn cc, .pointer (some ⟨g0, 0, none⟩), .pointer (some ⟨g0 + 1, 0, none⟩)] W' fun e w' => e = .returned (.slice (some ⟨W'.heap.size, 0, none⟩) 1 1) ∧ Below W'.heap.size W' w' ∧ Answ w' W'.heap.size 7 ni frm mi no B nn cc))
    go_wp2_with fail
    refine wp_region_held_drew (S := fun w' => Below w10.heap.size w10 w') rfl (below_drew (Below.refl _ _)) (fun hSw => ?_)
    refine wpT (i := 0) (v := ?vhsd0) ?hhsd0 hSw ?khsd0
    case hhsd0 => (intro w hSw; (obtain ⟨x, y, z⟩ := HK9.out _ hSw; have x0 := x.cell 0; have y4 := y.cell 4; have z1 := z.box.cell 1; simp only [gE0, gE1] at x0 y4 z1; clear x y z); go_simp; try (with_reducible rfl))
    go_simp
    refine wpT (i := 1) (v := ?vhsd1) ?hhsd1 hSw ?khsd1
    case hhsd1 => (intro w hSw; (obtain ⟨x, y, z⟩ := HK9.out _ hSw; have x0 := x.cell 0; have y4 := y.cell 4; have z1 := z.box.cell 1; simp only [gE0, gE1] at x0 y4 z1; clear x y z); go_simp; try (with_reducible rfl))
    go_simp
    refine wpT (i := 2) (v := ?vhsd2) ?hhsd2 hSw ?khsd2
    case hhsd2 => (intro w hSw; (obtain ⟨x, y, z⟩ := HK9.out _ hSw; have x0 := x.cell 0; have y4 := y.cell 4; have z1 := z.box.cell 1; simp only [gE0, gE1] at x0 y4 z1; clear x y z); go_simp; try (with_reducible rfl))
    go_simp
    refine wpT (i := 3) (v := ?vhsd3) ?hhsd3 hSw ?khsd3
    case hhsd3 => (intro w hSw; (obtain ⟨x, y, z⟩ := HK9.out _ hSw; have x0 := x.cell 0; have y4 := y.cell 4; have z1 := z.box.cell 1; simp only [gE0, gE1] at x0 y4 z1; clear x y z); go_simp; try (with_reducible rfl))
    go_simp
    refine wpT (i := 4) (v := ?vhsd4) ?hhsd4 hSw ?khsd4
    case hhsd4 => (intro w hSw; (obtain ⟨x, y, z⟩ := HK9.out _ hSw; have x0 := x.cell 0; have y4 := y.cell 4; have z1 := z.box.cell 1; simp only [gE0, gE1] at x0 y4 z1; clear x y z); go_simp; try (with_reducible rfl))
    go_simp
    refine wpT (i := 5) (v := ?vhsd5) ?hhsd5 hSw ?khsd5
    case hhsd5 => (intro w hSw; (obtain ⟨x, y, z⟩ := HK9.out _ hSw; have x0 := x.cell 0; have y4 := y.cell 4; have z1 := z.box.cell 1; simp only [gE0, gE1] at x0 y4 z1; clear x y z); go_simp; try (with_reducible rfl))
    go_simp
    refine wpT (i := 6) (v := ?vhsd6) ?hhsd6 hSw ?khsd6
    case hhsd6 => (intro w hSw; (obtain ⟨x, y, z⟩ := HK9.out _ hSw; have x0 := x.cell 0; have y4 := y.cell 4; have z1 := z.box.cell 1; simp only [gE0, gE1] at x0 y4 z1; clear x y z); go_simp; try (with_reducible rfl))
    go_simp
    refine wpT (i := 8) (v := ?vhsd8) ?hhsd8 hSw ?khsd8
    case hhsd8 => (intro w hSw; (obtain ⟨x, y, z⟩ := HK9.out _ hSw; have x0 := x.cell 0; have y4 := y.cell 4; have z1 := z.box.cell 1; simp only [gE0, gE1] at x0 y4 z1; clear x y z); go_simp; try (with_reducible rfl))
    go_simp
    refine wpT (i := 9) (v := ?vhsd9) ?hhsd9 hSw ?khsd9
    case hhsd9 => (intro w hSw; (obtain ⟨x, y, z⟩ := HK9.out _ hSw; have x0 := x.cell 0; have y4 := y.cell 4; have z1 := z.box.cell 1; simp only [gE0, gE1] at x0 y4 z1; clear x y z); go_simp; try (with_reducible rfl))
    go_simp
    refine wpAnyH_ready (rs := [7]) (by kernel_rfl) (by simp) ?_
    refine AllReadyH.cons rfl (fun K hK => ?_) AllReadyH.nil
    go_simp
    with_reducible refine (HST.out _ hSw).mono ?_
    rintro e w13 ⟨A1, c1, rfl, ho1, hb10⟩; have HUP := Lib.hid (supto_any A1 Y1.A.n c1 V1.st no w13 (by have := (HK9.out _ hSw).2.2.at_.alen; rw [HVS.out] at this; have := hN.len; omega) (Row.own ho1)); clear ho1
    go_simp
    refine hK.out _ _ (later_ hSw hb10) (fun hSn => ?_)
    clear hK K hSw
    have hSw := hSn
    clear hSn
    go_simp
    refine wpAnyH_ready (rs := [10]) (by kernel_rfl) (by simp) ?_
    refine AllReadyH.cons rfl (fun K hK => ?_) AllReadyH.nil
    go_simp
    with_reducible refine HUP.out.mono ?_
    rintro e w11 ⟨A2, k2, rfl, hk2, hi2, hb11⟩; clear hk2 HUP
    go_simp
    refine hK.out _ _ (later_ hSw hb11) (fun hSn => ?_)
    clear hK K hSw
    have hSw := hSn
    clear hSn
    go_simp
    refine wpAnyH_ready (rs := [11]) (by kernel_rfl) (by simp) ?_
    refine AllReadyH.cons rfl (fun K hK => ?_) AllReadyH.nil
    go_simp
    with_reducible refine (HAN.out _ hSw A2 k2 k2).mono ?_
    rintro e w12 ⟨rfl, hb12, ha12⟩
    go_simp
    refine hK.out _ _ (later_ hSw hb12) (fun hSn => ?_)
    clear hK K hSw
    have hSw := hSn
    clear hSn
    go_simp
    refine wpT (i := 12) (v := ?vhsd12) ?hhsd12 hSw ?khsd12
    case hhsd12 => (intro w hSw; (obtain ⟨x, y, z⟩ := HK9.out _ hSw; have x0 := x.cell 0; have y4 := y.cell 4; have z1 := z.box.cell 1; simp only [gE0, gE1] at x0 y4 z1; clear x y z); go_simp; try (with_reducible rfl))
    go_simp
    refine wpAnyH_done (by kernel_rfl) ?_ _
    have hz : HPost X Y w R.1 R.2.1 nb ni now grace frm mi R.2.2 (.returned (.slice (some ⟨w11.heap.size, 0, none⟩) 1 1)) w12 := by
     have hb911 : Below w10.heap.size w10 w11 := later_ (later_ (below_drew (Below.refl _ _)) hb10) hb11
     have hlow : ∀ a, A2 = some a → w10.heap.size ≤ a.block := fun a ha => Nat.le_trans (later_ (below_drew (Below.refl _ _)) hb10).size (hi2.low a ha)
     have hrow := hi2.row
     rw [HVS.out] at hrow
     have hn : HPost X1 Y1 w10 S1 V1 nb ni now grace frm mi (some (7, no, upto V.st no)) (.returned (.slice (some ⟨w11.heap.size, 0, none⟩) 1 1)) w12 := HN10.out.2.2.told hb911 hrow hlow hb12 ha12
     rw [HR3.out]
     exact hn.up HC10.out.1 HC10.out.2.1 ((Chg.of_below HUP.out.2 _).trans HC10.out.2.2.1 (fun g hg => .inl hg)) (fun g hg => (HC10.out.2.2.2.1 g hg).imp (fun z => z) (Nat.le_trans HUP.out.2.size)) (HC10.out.2.2.2.2.imp (fun z => z) (fun z a ha => Nat.le_trans HUP.out.2.size (z a ha)))
    have HZ := Lib.hid hz
    clear hz hSw hb10 hb11 hi2 hb12 ha12 HAN HST
    go_wp2
    go_ret
    exact HZ.out
end
section
open Go
namespace Nd
structure NS (q : Int) (S : Sd) (V : Sv) (c d : Nat) : Prop where
 calm : Calm S
 quota : S.quota = q
 only : V.only = false
 nm : V.nm = St.kLog1
 log : ∃ t, cont S St.kLog1 = some t ∧ t.length ≤ c
 man : ∃ t, cont S (Mw.man 1) = some t ∧ t.length ≤ d
 small : Small S [St.kLog1, Mw.man 1, Mw.kCur] 70000
 sz : V.sz ≤ c
 ct : V.ct ≤ c
 mem : V.mem.length ≤ c
 tabs : V.tabs = []
 st : Stt V.st
 name : V.M.name = Mw.man 1
 br : V.M.broken = false
 ok : V.M.v.ok = true
 files : V.M.v.files = []
 count : V.M.count ≤ d
def v0 : Sv := ⟨{ St.first with name := Mw.man 1, count := 1 }, St.kLog1, 0, 0, [], [], [], false⟩
theorem born (q : Int) (h1 : 500000 ≤ q) (h2 : q ≤ 1099511627776) : ∃ S, St.create (Sd.new q) = (S, some v0, 0) ∧ NS q S v0 0 100 := by
 have hc := Calm.new q h2
 obtain ⟨d6, q1, q2, q3, q4⟩ := create_other (K := []) (B := 2100) hc ⟨fun s x hx => (by rw [Calm.cont_new] at hx; cases hx), fun s x hx => (by rw [Calm.cont_new] at hx; cases hx)⟩ (by simp) (fun s x hx => (by rw [Calm.cont_new] at hx; cases hx)) (Nat.le_refl _) (by simp [Sd.new]; omega)
 have n1 : St.kLog1 ≠ Mw.kTemp := by decide
 have n2 : St.kLog1 ≠ Mw.kCur := by decide
 have n3 : St.kLog1 ≠ Mw.man 1 := by decide +kernel
 have n4 : Mw.man 1 ≠ Mw.kTemp := by decide +kernel
 have n5 : Mw.man 1 ≠ Mw.kCur := by decide +kernel
 have hl1 : St.first.v.whole.rec_.length ≤ 100 := by decide +kernel
 have hl2 : (Mw.headB 1).length ≤ 70000 := by decide +kernel
 refine ⟨d6, q1, q2, by rw [q3]; simp [Sd.new]; omega, rfl, rfl, ⟨[], ?_, Nat.zero_le _⟩, ⟨St.first.v.whole.rec_, ?_, hl1⟩, ⟨fun s x hx => ?_, fun s x hx => ?_⟩, Nat.zero_le _, Nat.zero_le _, Nat.zero_le _, rfl, Stt.nil, rfl, rfl, by decide +kernel, rfl, by decide⟩
 ·rw [q4]
  unfold upd
  rw [if_neg n1, if_neg n2, if_neg n1, if_neg n3, if_pos rfl]
 ·rw [q4]
  unfold upd
  rw [if_neg n4, if_neg n5, if_neg n4, if_pos rfl]
 all_goals
  rw [q4, Calm.cont_new] at hx
  unfold upd at hx
  split at hx
  ·cases hx
  ·split at hx
   ·injection hx with hx
    subst_vars
    first | simp | exact hl2
   ·split at hx
    ·injection hx with hx
     subst_vars
     first | simp | omega
    ·split at hx
     ·injection hx with hx
      subst_vars
      simp
     ·cases hx
variable {q : Int} {S : Sd} {V : Sv} {c d : Nat}
theorem NS.nrm (h : NS q S V c d) (hc : c ≤ 100000) (hd : d ≤ 100000) (hl : V.st.length ≤ 1500) : Nrm V := ⟨h.tabs, h.st, hl, by have := h.sz; omega, by have := h.ct; omega, by have := h.mem; omega, by rw [h.nm]; decide, by rw [h.files]; simp, by have := h.count; omega, by rw [h.name]; decide +kernel⟩
theorem NS.four (h : NS q S V c d) : V.M.v.floor ≤ 281474976710656 ∧ V.M.v.cert ≤ 281474976710656 ∧ V.M.v.at_ ≤ 281474976710656 ∧ V.M.v.lease ≤ 281474976710656 := by
 have := h.ok
 simp only [Vw.ok, four4, Bool.and_eq_true, decide_eq_true_eq] at this
 omega
theorem NS.sync (h : NS q S V c d) : ∃ S', St.sync S V = (S', V, 0) ∧ NS q S' V c d := by
 obtain ⟨t, ht, _⟩ := h.log
 obtain ⟨a1, a2, a3, a4⟩ := h.calm.sync (s := St.kLog1) (by decide +kernel) ht
 refine ⟨(S.sync St.kLog1).1, ?_, ⟨a2, by rw [a4, h.quota], h.only, h.nm, by rw [a3]; exact h.log, by rw [a3]; exact h.man, ⟨by rw [a3]; exact h.small.names, by rw [a3]; exact h.small.len⟩, h.sz, h.ct, h.mem, h.tabs, h.st, h.name, h.br, h.ok, h.files, h.count⟩⟩
 unfold St.sync
 rw [if_neg (by rw [h.only]; simp), h.nm, if_pos a1]
theorem NS.apply (h : NS q S V c d) (hq : 500000 ≤ q) (hc : c + 2000 ≤ 70000) {l : List It} (h0 : l ≠ []) (ha : l.all It.ok = true) (hl : l.length ≤ 60) (hj : (joins V.st l).length ≤ 1500) :
  ∃ S' V', St.apply S V l = (S', V', 0) ∧ NS q S' V' (c + (22 + 32 * l.length)) d ∧ V'.st = joins V.st l ∧ V'.M = V.M := by
 have hb := Lg.batch_len l
 obtain ⟨t, ht, hc0⟩ := h.log
 obtain ⟨t2, ht2, hd0⟩ := h.man
 obtain ⟨ln, lu⟩ := h.calm.length_names h.small
 have n3 : Mw.man 1 ≠ St.kLog1 := by decide +kernel
 obtain ⟨a1, a2, a3, a4⟩ := h.calm.append (s := St.kLog1) (by decide +kernel) ht (Lg.batch l) (by omega) (by have := h.quota; simp at lu; omega)
 refine ⟨_, { V with sz := V.sz + (Lg.batch l).length, ct := V.ct + 1, mem := l.foldl wput V.mem, st := joins V.st l }, ?_, ⟨a2, by rw [a4, h.quota], h.only, h.nm, ⟨t ++ Lg.batch l, ?_, ?_⟩, ⟨t2, ?_, hd0⟩, ⟨fun s x hx => ?_, fun s x hx => ?_⟩, ?_, ?_, ?_, h.tabs, (joins_stt l h.st).1, h.name, h.br, h.ok, h.files, h.count⟩, rfl, rfl⟩
 ·unfold St.apply
  rw [if_neg (by rw [h.only]; simp), if_neg (by simp [h0, ha]), if_neg (by omega), if_neg (by omega), h.nm]
  simp only [a1]
  simp
 ·rw [a3, upd, if_pos rfl]
 ·rw [List.length_append]
  omega
 ·rw [a3, upd, if_neg n3]
  exact ht2
 ·rw [a3, upd] at hx
  split at hx
  ·subst_vars; simp
  ·exact h.small.names s x hx
 ·rw [a3, upd] at hx
  split at hx
  ·injection hx with hx
   rw [← hx, List.length_append]
   omega
  ·exact h.small.len s x hx
 ·have := h.sz
  simp only
  omega
 ·have := h.ct
  simp only
  omega
 ·have := wputs_len l V.mem
  have := h.mem
  simp only
  omega
theorem NS.mono {c' d' : Nat} (h : NS q S V c d) (hc : c ≤ c') (hd : d ≤ d') : NS q S V c' d' := ⟨h.calm, h.quota, h.only, h.nm, let ⟨t, a, b⟩ := h.log; ⟨t, a, by omega⟩, let ⟨t, a, b⟩ := h.man; ⟨t, a, by omega⟩, h.small, by have := h.sz; omega, by have := h.ct; omega, by have := h.mem; omega, h.tabs, h.st, h.name, h.br, h.ok, h.files, by have := h.count; omega⟩
theorem NS.last (h : NS q S V c d) (hq : 500000 ≤ q) (hc : c + 2000 ≤ 70000) {l : List It} (ha : l.all It.ok = true) (hl : l.length ≤ 60) (hj : (joins V.st l).length ≤ 1500) :
  ∃ S' V', St.last S V l = (S', V', true) ∧ NS q S' V' (c + (22 + 32 * l.length)) d ∧ V'.st = joins V.st l ∧ V'.M = V.M := by
 by_cases he : joins V.st l = V.st
 ·obtain ⟨S', h1, h2⟩ := h.sync
  refine ⟨S', V, ?_, h2.mono (by omega) (Nat.le_refl _), he.symm, rfl⟩
  unfold St.last
  rw [if_pos he, h1]
  rfl
 ·have h0 : l ≠ [] := fun e => he (by rw [e]; rfl)
  obtain ⟨S1, V1, h1, h2, h3, h4⟩ := h.apply hq hc h0 ha hl hj
  obtain ⟨S2, h5, h6⟩ := h2.sync
  refine ⟨S2, V1, ?_, h6, h3, h4⟩
  unfold St.last
  rw [if_neg he, h1]
  simp only [ne_eq, not_true_eq_false, if_false, h5]
  rfl
theorem NS.put (h : NS q S V c d) (hq : 500000 ≤ q) (hc : c + 2000 ≤ 70000) {l : List It} (ha : l.all It.ok = true) (hl : l.length ≤ 60) (hj : (joins V.st l).length ≤ 1500) (hf : ∀ x ∈ l, V.M.v.floor < x.v) :
  ∃ S' V', St.put S V l = (S', V', some (2, 0, [])) ∧ NS q S' V' (c + (22 + 32 * l.length)) d ∧ V'.st = joins V.st l ∧ V'.M = V.M := by
 obtain ⟨S1, V1, h1, h2, h3, h4⟩ := h.last hq hc ha hl hj
 refine ⟨S1, V1, ?_, h2, h3, h4⟩
 unfold St.put
 rw [if_neg (by
  rw [List.any_eq_true]
  rintro ⟨x, hx, h⟩
  have := hf x hx
  simp at h
  omega), h1, if_pos rfl]
theorem app_floor {v : Vw} (hv : v.ok = true) {f : Nat} (hf : f ≠ 0) (hf2 : f ≤ 281474976710656) : v.app ⟨[], [], 0, f, v.cert, v.at_, v.lease⟩ = some { v with floor := f } := by
 have ho : ({ v with floor := f } : Vw).ok = true := by
  simp only [Vw.ok, four4, Bool.and_eq_true, decide_eq_true_eq] at hv ⊢
  refine ⟨⟨⟨hv.1.1.1, ?_⟩, hv.1.2⟩, hv.2⟩
  omega
 have hz : ∀ a : Nat, orElse a a = a := fun a => by unfold orElse; split <;> rfl
 have hz1 : orElse f v.floor = f := by unfold orElse; rw [if_neg hf]
 unfold Vw.app dropAll
 simp only [hz, hz1, if_true, List.append_nil]
 rw [if_pos ho]
theorem NS.raise (h : NS q S V c d) (hq : 500000 ≤ q) (hd : d + 2012 ≤ 70000) {f : Nat} (hf : f ≠ 0) (hf2 : f ≤ 281474976710656) :
  ∃ S' V', St.setMeta S V { St.meta_ V with floor := f } = (S', V', 0) ∧ NS q S' V' c (d + 2012) ∧ V'.st = V.st ∧ V'.M.v = { V.M.v with floor := f } := by
 have h4 := h.four
 have he : (⟨[], [], 0, f, V.M.v.cert, V.M.v.at_, V.M.v.lease⟩ : Ed).may = true := by
  simp [Ed.may, four4]
  omega
 have hr := Ed.rec_len he
 obtain ⟨t, ht, hc0⟩ := h.log
 obtain ⟨t2, ht2, hd0⟩ := h.man
 obtain ⟨ln, lu⟩ := h.calm.length_names h.small
 have n3 : St.kLog1 ≠ Mw.man 1 := by decide +kernel
 have hnm : Sd.named (Mw.man 1) = true := by decide +kernel
 obtain ⟨a1, a2, a3, a4⟩ := h.calm.append (s := Mw.man 1) hnm ht2 (Ed.rec_ ⟨[], [], 0, f, V.M.v.cert, V.M.v.at_, V.M.v.lease⟩) (by omega) (by have := h.quota; simp at lu; omega)
 obtain ⟨b1, b2, b3, b4⟩ := a2.sync (s := Mw.man 1) hnm (x := t2 ++ Ed.rec_ ⟨[], [], 0, f, V.M.v.cert, V.M.v.at_, V.M.v.lease⟩) (by rw [a3, upd, if_pos rfl])
 have hsv : Gw.save S V.M ⟨[], [], 0, f, V.M.v.cert, V.M.v.at_, V.M.v.lease⟩ = (((S.append (Mw.man 1) (Ed.rec_ ⟨[], [], 0, f, V.M.v.cert, V.M.v.at_, V.M.v.lease⟩)).1.sync (Mw.man 1)).1, { V.M with count := V.M.count + 1, v := { V.M.v with floor := f } }, 0) := by
  unfold Gw.save
  rw [if_neg (by rw [h.br]; simp), if_neg (by rw [he]; simp), app_floor h.ok hf hf2]
  simp only
  unfold Gw.put
  rw [h.name, if_neg (by simp [a1]), if_neg (by simp [b1])]
 have ho : ({ V.M.v with floor := f } : Vw).ok = true := by
  have hv := h.ok
  simp only [Vw.ok, four4, Bool.and_eq_true, decide_eq_true_eq] at hv ⊢
  refine ⟨⟨⟨hv.1.1.1, ?_⟩, hv.1.2⟩, hv.2⟩
  omega
 refine ⟨((S.append (Mw.man 1) (Ed.rec_ ⟨[], [], 0, f, V.M.v.cert, V.M.v.at_, V.M.v.lease⟩)).1.sync (Mw.man 1)).1, { V with M := { V.M with count := V.M.count + 1, v := { V.M.v with floor := f } } }, ?_, ⟨b2, by rw [b4, a4, h.quota], h.only, h.nm, ⟨t, ?_, hc0⟩, ⟨t2 ++ Ed.rec_ ⟨[], [], 0, f, V.M.v.cert, V.M.v.at_, V.M.v.lease⟩, ?_, ?_⟩, ⟨fun s x hx => ?_, fun s x hx => ?_⟩, h.sz, h.ct, h.mem, h.tabs, h.st, h.name, h.br, ho, h.files, ?_⟩, rfl, rfl⟩
 ·unfold St.setMeta St.saved
  rw [if_neg (by rw [h.only]; simp)]
  simp only [St.meta_]
  rw [hsv]
  simp only [h.br, h.only, Bool.or_false]
 ·rw [b3, a3, upd, if_neg n3]
  exact ht
 ·rw [b3, a3, upd, if_pos rfl]
 ·rw [List.length_append]
  omega
 ·rw [b3, a3, upd] at hx
  split at hx
  ·subst_vars; simp
  ·exact h.small.names s x hx
 ·rw [b3, a3, upd] at hx
  split at hx
  ·injection hx with hx
   rw [← hx, List.length_append]
   omega
  ·exact h.small.len s x hx
 ·have := h.count
  simp only
  omega
end Nd
end
end Go.Proofs.YtdkjoigpahafmaaGreatDoor
