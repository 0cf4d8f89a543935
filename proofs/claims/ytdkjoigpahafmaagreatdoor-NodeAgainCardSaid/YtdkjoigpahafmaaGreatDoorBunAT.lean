/- Texts NodM in one. No conditions. -/
import Derived.Test.YtdkjoigpahafmaaGreatDoorBunAA
import Derived.Test.YtdkjoigpahafmaaGreatDoorBunAS

set_option linter.unusedSimpArgs false
set_option linter.unusedVariables false
set_option maxRecDepth 100000
set_option maxHeartbeats 16000000
namespace Go.Proofs.YtdkjoigpahafmaaGreatDoor
section
open Go Go.RowKit Go.Lib Go.Shelf
variable {w w1 w2 : World} {X X1 X2 : Dw} {S S1 S2 : Sd} {Y Y1 Y2 : Yw} {V V1 V2 : Sv} {nb now grace : Nat} {ni : Int}
theorem hno_any (h : NdAt w X S Y V nb ni now grace) (k frm to_ : Int) (mi no : Nat) (A : Option Addr) (n c : Nat) (l : List It) (hn : n ≤ 1000) (hr : Row w.heap.size w A n 5 (itc l)) (hno : Mq.ok ⟨k, frm, to_, mi, no, A, n, c⟩ l = false ∨ to_ ≠ ni) :
  Calls Tryz.prog 16 #[.pointer (some ⟨nb, 0, none⟩), .agg #[.int .i64 k, .int .i64 frm, .int .i64 to_, .int .u64 (mi : Int), .int .u64 (no : Int), .slice A n c]] w (HPost X Y w S V nb ni now grace frm mi none) := by
 have hb1 := (Below.refl w.heap.size w).alloc (Nat.le_refl _) (.cells #[.pointer (some ⟨nb, 0, none⟩)] 42)
 have hb2 := hb1.alloc (by simp) (.cells #[.int .i64 k, .int .i64 frm, .int .i64 to_, .int .u64 (mi : Int), .int .u64 (no : Int), .slice A n c] 47)
 have hx0 := (BoxO.new w #[.pointer (some ⟨nb, 0, none⟩)] 42).alloc (.cells #[.int .i64 k, .int .i64 frm, .int .i64 to_, .int .u64 (mi : Int), .int .u64 (no : Int), .slice A n c] 47)
 have hx1 := BoxO.new (w.alloc (.cells #[.pointer (some ⟨nb, 0, none⟩)] 42)) #[.int .i64 k, .int .i64 frm, .int .i64 to_, .int .u64 (mi : Int), .int .u64 (no : Int), .slice A n c] 47
 rw [World.size_alloc] at hx1
 have h2 := h.below hb2
 obtain ⟨W, hW⟩ : ∃ W, W = (w.alloc (.cells #[.pointer (some ⟨nb, 0, none⟩)] 42)).alloc (.cells #[.int .i64 k, .int .i64 frm, .int .i64 to_, .int .u64 (mi : Int), .int .u64 (no : Int), .slice A n c] 47) := ⟨_, rfl⟩
 obtain ⟨g0, hg0⟩ : ∃ g0, g0 = w.heap.size := ⟨_, rfl⟩
 rw [← hW] at hb2 hx0 hx1 h2
 rw [← hg0] at hx0 hx1
 have hmo := fun W' (hb : Below W.heap.size W W') => mok_any ⟨k, frm, to_, mi, no, A, n, c⟩ l W' (by simp only; omega) ((((hr.below hb2).up hb2.size).below hb).up hb.size)
 obtain ⟨ok, hok⟩ : ∃ ok, ok = Mq.ok ⟨k, frm, to_, mi, no, A, n, c⟩ l := ⟨_, rfl⟩
 rw [← hok] at hmo hno
 unfold Mq.val at hmo
 simp only at hmo
 have HMO := Lib.hid hmo
 have HK := Lib.hid (fun W' (hb : Below W.heap.size W W') => And.intro (hx0.below hb) (And.intro (hx1.below hb) (h2.below hb)))
 have HZ := Lib.hid (fun W' (hb : Below W.heap.size W W') => (NdUpd.same h (hb2.trans (hb.mono hb2.size))).mute (w := w) (mf := frm) (mi := mi) (Below.refl _ _))
 have HW := Lib.hid (And.intro hW hg0)
 have HNO := Lib.hid hno
 clear hmo h2 hx0 hx1 hb1 hb2 hW hg0 hr h hok hno
 cases ok with
 | false =>
  go_enter Tryz.func16, Tryz.ntmps16
  go_wp2_with fail
  rw [← HW.out.1, ← HW.out.2]
  refine wp_region_held_drew (S := fun w' => Below W.heap.size W w') rfl (below_drew (Below.refl _ _)) (fun hSw => ?_)
  refine wpT (i := 0) (v := ?vhna0) ?hhna0 hSw ?khna0
  case hhna0 => (intro w hSw; (obtain ⟨x, y, z⟩ := HK.out _ hSw; have x0 := x.cell 0; have y0 := y.cell 0; have y1 := y.cell 1; have y2 := y.cell 2; have y3 := y.cell 3; have y4 := y.cell 4; have y5 := y.cell 5; have z0 := z.box.cell 0; simp only [gE0, gE1] at x0 y0 y1 y2 y3 y4 y5 z0; clear x y z); go_simp; try (with_reducible rfl))
  go_simp
  refine wpAnyH_ready (rs := [1]) (by kernel_rfl) (by simp) ?_
  refine AllReadyH.cons rfl (fun K hK => ?_) AllReadyH.nil
  go_simp
  with_reducible refine (HMO.out _ hSw).mono ?_
  rintro e w3 ⟨rfl, hb3⟩
  go_simp
  refine hK.out _ _ (later_ hSw hb3) (fun hSn => ?_)
  clear hK K hSw
  have hSw := hSn
  clear hSn
  go_simp
  refine wpT (i := 2) (v := ?vhna2) ?hhna2 hSw ?khna2
  case hhna2 => (intro w hSw; (obtain ⟨x, y, z⟩ := HK.out _ hSw; have x0 := x.cell 0; have y0 := y.cell 0; have y1 := y.cell 1; have y2 := y.cell 2; have y3 := y.cell 3; have y4 := y.cell 4; have y5 := y.cell 5; have z0 := z.box.cell 0; simp only [gE0, gE1] at x0 y0 y1 y2 y3 y4 y5 z0; clear x y z); go_simp; try (with_reducible rfl))
  go_simp
  refine wpT (i := 3) (v := ?vhna3) ?hhna3 hSw ?khna3
  case hhna3 => (intro w hSw; (obtain ⟨x, y, z⟩ := HK.out _ hSw; have x0 := x.cell 0; have y0 := y.cell 0; have y1 := y.cell 1; have y2 := y.cell 2; have y3 := y.cell 3; have y4 := y.cell 4; have y5 := y.cell 5; have z0 := z.box.cell 0; simp only [gE0, gE1] at x0 y0 y1 y2 y3 y4 y5 z0; clear x y z); go_simp; try (with_reducible rfl))
  go_simp
  refine wpT0 (i := 4) hSw ?_
  go_simp
  refine wpT0 (i := 5) hSw ?_
  go_simp
  refine wpT0 (i := 6) hSw ?_
  go_simp
  refine wpT0 (i := 7) hSw ?_
  go_simp
  refine wpT0 (i := 8) hSw ?_
  go_simp
  refine wpT0 (i := 9) hSw ?_
  go_simp
  refine wpT0 (i := 10) hSw ?_
  go_simp
  refine wpT (i := 11) (v := ?vhna11) ?hhna11 hSw ?khna11
  case hhna11 => (intro w hSw; (obtain ⟨x, y, z⟩ := HK.out _ hSw; have x0 := x.cell 0; have y0 := y.cell 0; have y1 := y.cell 1; have y2 := y.cell 2; have y3 := y.cell 3; have y4 := y.cell 4; have y5 := y.cell 5; have z0 := z.box.cell 0; simp only [gE0, gE1] at x0 y0 y1 y2 y3 y4 y5 z0; clear x y z); go_simp; try (with_reducible rfl))
  go_simp
  refine wpAnyH_done (by kernel_rfl) ?_ _
  have HQ := Lib.hid (HZ.out w3 (later_ (below_drew (Below.refl _ _)) hb3))
  clear hSw hb3 HMO HK HZ
  go_wp2
  go_ret
  exact HQ.out
 | true =>
  have e1 : (to_ == ni) = false := by have := HNO.out; simpa using this
  have e2 : (to_ != ni) = true := by have := HNO.out; simpa using this
  go_enter Tryz.func16, Tryz.ntmps16
  go_wp2_with fail
  rw [← HW.out.1, ← HW.out.2]
  refine wp_region_held_drew (S := fun w' => Below W.heap.size W w') rfl (below_drew (Below.refl _ _)) (fun hSw => ?_)
  refine wpT (i := 0) (v := ?vhnb0) ?hhnb0 hSw ?khnb0
  case hhnb0 => (intro w hSw; (obtain ⟨x, y, z⟩ := HK.out _ hSw; have x0 := x.cell 0; have y0 := y.cell 0; have y1 := y.cell 1; have y2 := y.cell 2; have y3 := y.cell 3; have y4 := y.cell 4; have y5 := y.cell 5; have z0 := z.box.cell 0; simp only [gE0, gE1] at x0 y0 y1 y2 y3 y4 y5 z0; clear x y z); go_simp; try (with_reducible rfl))
  go_simp
  refine wpAnyH_ready (rs := [1]) (by kernel_rfl) (by simp) ?_
  refine AllReadyH.cons rfl (fun K hK => ?_) AllReadyH.nil
  go_simp
  with_reducible refine (HMO.out _ hSw).mono ?_
  rintro e w3 ⟨rfl, hb3⟩
  go_simp
  refine hK.out _ _ (later_ hSw hb3) (fun hSn => ?_)
  clear hK K hSw
  have hSw := hSn
  clear hSn
  go_simp
  refine wpT (i := 2) (v := ?vhnb2) ?hhnb2 hSw ?khnb2
  case hhnb2 => (intro w hSw; (obtain ⟨x, y, z⟩ := HK.out _ hSw; have x0 := x.cell 0; have y0 := y.cell 0; have y1 := y.cell 1; have y2 := y.cell 2; have y3 := y.cell 3; have y4 := y.cell 4; have y5 := y.cell 5; have z0 := z.box.cell 0; simp only [gE0, gE1] at x0 y0 y1 y2 y3 y4 y5 z0; clear x y z); go_simp; try (with_reducible rfl))
  go_simp
  refine wpT (i := 3) (v := ?vhnb3) ?hhnb3 hSw ?khnb3
  case hhnb3 => (intro w hSw; (obtain ⟨x, y, z⟩ := HK.out _ hSw; have x0 := x.cell 0; have y0 := y.cell 0; have y1 := y.cell 1; have y2 := y.cell 2; have y3 := y.cell 3; have y4 := y.cell 4; have y5 := y.cell 5; have z0 := z.box.cell 0; simp only [gE0, gE1] at x0 y0 y1 y2 y3 y4 y5 z0; clear x y z); go_simp; try (with_reducible rfl))
  go_simp
  refine wpT (i := 4) (v := ?vhnb4) ?hhnb4 hSw ?khnb4
  case hhnb4 => (intro w hSw; (obtain ⟨x, y, z⟩ := HK.out _ hSw; have x0 := x.cell 0; have y0 := y.cell 0; have y1 := y.cell 1; have y2 := y.cell 2; have y3 := y.cell 3; have y4 := y.cell 4; have y5 := y.cell 5; have z0 := z.box.cell 0; simp only [gE0, gE1] at x0 y0 y1 y2 y3 y4 y5 z0; clear x y z); go_simp; try (with_reducible rfl))
  go_simp
  refine wpT (i := 5) (v := ?vhnb5) ?hhnb5 hSw ?khnb5
  case hhnb5 => (intro w hSw; (obtain ⟨x, y, z⟩ := HK.out _ hSw; have x0 := x.cell 0; have y0 := y.cell 0; have y1 := y.cell 1; have y2 := y.cell 2; have y3 := y.cell 3; have y4 := y.cell 4; have y5 := y.cell 5; have z0 := z.box.cell 0; simp only [gE0, gE1] at x0 y0 y1 y2 y3 y4 y5 z0; clear x y z); go_simp; try (with_reducible rfl))
  go_simp
  refine wpT (i := 6) (v := ?vhnb6) ?hhnb6 hSw ?khnb6
  case hhnb6 => (intro w hSw; (obtain ⟨x, y, z⟩ := HK.out _ hSw; have x0 := x.cell 0; have y0 := y.cell 0; have y1 := y.cell 1; have y2 := y.cell 2; have y3 := y.cell 3; have y4 := y.cell 4; have y5 := y.cell 5; have z0 := z.box.cell 0; simp only [gE0, gE1] at x0 y0 y1 y2 y3 y4 y5 z0; clear x y z); go_simp; try (with_reducible rfl))
  go_simp
  refine wpT (i := 7) (v := ?vhnb7) ?hhnb7 hSw ?khnb7
  case hhnb7 => (intro w hSw; (obtain ⟨x, y, z⟩ := HK.out _ hSw; have x0 := x.cell 0; have y0 := y.cell 0; have y1 := y.cell 1; have y2 := y.cell 2; have y3 := y.cell 3; have y4 := y.cell 4; have y5 := y.cell 5; have z0 := z.box.cell 0; simp only [gE0, gE1] at x0 y0 y1 y2 y3 y4 y5 z0; clear x y z); go_simp; try (with_reducible rfl))
  go_simp
  refine wpT (i := 8) (v := ?vhnb8) ?hhnb8 hSw ?khnb8
  case hhnb8 => (intro w hSw; (obtain ⟨x, y, z⟩ := HK.out _ hSw; have x0 := x.cell 0; have y0 := y.cell 0; have y1 := y.cell 1; have y2 := y.cell 2; have y3 := y.cell 3; have y4 := y.cell 4; have y5 := y.cell 5; have z0 := z.box.cell 0; simp only [gE0, gE1] at x0 y0 y1 y2 y3 y4 y5 z0; clear x y z); go_simp; try (with_reducible rfl))
  go_simp
  refine wpT (i := 9) (v := ?vhnb9) ?hhnb9 hSw ?khnb9
  case hhnb9 => (intro w hSw; (obtain ⟨x, y, z⟩ := HK.out _ hSw; have x0 := x.cell 0; have y0 := y.cell 0; have y1 := y.cell 1; have y2 := y.cell 2; have y3 := y.cell 3; have y4 := y.cell 4; have y5 := y.cell 5; have z0 := z.box.cell 0; simp only [gE0, gE1] at x0 y0 y1 y2 y3 y4 y5 z0; clear x y z); go_simp; try (with_reducible rfl))
  go_simp
  refine wpT (i := 10) (v := ?vhnb10) ?hhnb10 hSw ?khnb10
  case hhnb10 => (intro w hSw; (obtain ⟨x, y, z⟩ := HK.out _ hSw; have x0 := x.cell 0; have y0 := y.cell 0; have y1 := y.cell 1; have y2 := y.cell 2; have y3 := y.cell 3; have y4 := y.cell 4; have y5 := y.cell 5; have z0 := z.box.cell 0; simp only [gE0, gE1] at x0 y0 y1 y2 y3 y4 y5 z0; clear x y z); go_simp; try (with_reducible rfl))
  go_simp
  refine wpT (i := 11) (v := ?vhnb11) ?hhnb11 hSw ?khnb11
  case hhnb11 => (intro w hSw; (obtain ⟨x, y, z⟩ := HK.out _ hSw; have x0 := x.cell 0; have y0 := y.cell 0; have y1 := y.cell 1; have y2 := y.cell 2; have y3 := y.cell 3; have y4 := y.cell 4; have y5 := y.cell 5; have z0 := z.box.cell 0; simp only [gE0, gE1] at x0 y0 y1 y2 y3 y4 y5 z0; clear x y z); go_simp; try (with_reducible rfl))
  go_simp
  refine wpAnyH_done (by kernel_rfl) ?_ _
  have HQ := Lib.hid (HZ.out w3 (later_ (below_drew (Below.refl _ _)) hb3))
  clear hSw hb3 HMO HK HZ
  go_wp2
  go_ret
  exact HQ.out
theorem hot_any (h : NdAt w X S Y V nb ni now grace) (hN : Nrm V) (frm : Int) (mi no : Nat) (A : Option Addr) (n c : Nat) (l : List It) (k : Int) (hok : Mq.ok ⟨k, frm, ni, mi, no, A, n, c⟩ l = true) (hn : n ≤ 1000) (hr : Row w.heap.size w A n 5 (itc l)) (ho : k ≠ 1 ∧ k ≠ 4 ∧ k ≠ 6 ∧ k ≠ 8 ∧ k ≠ 10) :
  Calls Tryz.prog 16 #[.pointer (some ⟨nb, 0, none⟩), .agg #[.int .i64 k, .int .i64 frm, .int .i64 ni, .int .u64 (mi : Int), .int .u64 (no : Int), .slice A n c]] w (HPost X Y w S V nb ni now grace frm mi none) := by
 have hb1 := (Below.refl w.heap.size w).alloc (Nat.le_refl _) (.cells #[.pointer (some ⟨nb, 0, none⟩)] 42)
 have hb2 := hb1.alloc (by simp) (.cells #[.int .i64 k, .int .i64 frm, .int .i64 ni, .int .u64 (mi : Int), .int .u64 (no : Int), .slice A n c] 47)
 have hx0 := (BoxO.new w #[.pointer (some ⟨nb, 0, none⟩)] 42).alloc (.cells #[.int .i64 k, .int .i64 frm, .int .i64 ni, .int .u64 (mi : Int), .int .u64 (no : Int), .slice A n c] 47)
 have hx1 := BoxO.new (w.alloc (.cells #[.pointer (some ⟨nb, 0, none⟩)] 42)) #[.int .i64 k, .int .i64 frm, .int .i64 ni, .int .u64 (mi : Int), .int .u64 (no : Int), .slice A n c] 47
 rw [World.size_alloc] at hx1
 have h2 := h.below hb2
 have hmf : ∀ (fn : Fn) (first cap : Array Value) (w : World), (Instr.makeFunc fn first cap).run Tryz.prog w = .ok (.func fn first cap) w := fun _ _ _ _ => rfl
 obtain ⟨W, hW⟩ : ∃ W, W = (w.alloc (.cells #[.pointer (some ⟨nb, 0, none⟩)] 42)).alloc (.cells #[.int .i64 k, .int .i64 frm, .int .i64 ni, .int .u64 (mi : Int), .int .u64 (no : Int), .slice A n c] 47) := ⟨_, rfl⟩
 obtain ⟨g0, hg0⟩ : ∃ g0, g0 = w.heap.size := ⟨_, rfl⟩
 rw [← hW] at hb2 hx0 hx1 h2
 rw [← hg0] at hx0 hx1
 have hmo := fun W' (hb : Below W.heap.size W W') => mok_any ⟨k, frm, ni, mi, no, A, n, c⟩ l W' (by simp only; omega) ((((hr.below hb2).up hb2.size).below hb).up hb.size)
 simp only [hok] at hmo
 unfold Mq.val at hmo
 simp only at hmo
 have HMO := Lib.hid hmo
 have H2 := Lib.hid h2
 have HX := Lib.hid (And.intro hx0 hx1)
 have HB := Lib.hid hb2
 have HW := Lib.hid (And.intro hW hg0)
 have HROW := Lib.hid ((hr.below hb2).up hb2.size)
 have HL := Lib.hid (And.intro h.at_.lt (And.intro h.box.lt h.at_.dm.env.base))
 have HK := Lib.hid (fun W' (hb : Below W.heap.size W W') => And.intro (hx0.below hb) (And.intro (hx1.below hb) (h2.below hb)))
 have HH := Lib.hid h
 clear hmo h2 hx0 hx1 hb1 hb2 hW hg0 hr h hok
 have e1 : (k == 1) = false := by simpa using ho.1
 have e4 : (k == 4) = false := by simpa using ho.2.1
 have e6 : (k == 6) = false := by simpa using ho.2.2.1
 have e8 : (k == 8) = false := by simpa using ho.2.2.2.1
 have e10 : (k == 10) = false := by simpa using ho.2.2.2.2
 go_enter Tryz.func16, Tryz.ntmps16
 go_wp2_with fail
 rw [← HW.out.1, ← HW.out.2]
 refine wp_region_held_drew (S := fun w' => Below W.heap.size W w') rfl (below_drew (Below.refl _ _)) (fun hSw => ?_)
 refine wpT (i := 0) (v := ?vhot0) ?hhot0 hSw ?khot0
 case hhot0 => (intro w hSw; (obtain ⟨x, y, z⟩ := HK.out _ hSw; have x0 := x.cell 0; have y0 := y.cell 0; have y1 := y.cell 1; have y2 := y.cell 2; have y3 := y.cell 3; have y4 := y.cell 4; have y5 := y.cell 5; have z0 := z.box.cell 0; simp only [gE0, gE1] at x0 y0 y1 y2 y3 y4 y5 z0; clear x y z); go_simp; try (with_reducible rfl))
 go_simp
 refine wpAnyH_ready (rs := [1]) (by kernel_rfl) (by simp) ?_
 refine AllReadyH.cons rfl (fun K hK => ?_) AllReadyH.nil
 go_simp
 with_reducible refine (HMO.out _ hSw).mono ?_
 rintro e w3 ⟨rfl, hb3⟩
 go_simp
 refine hK.out _ _ (later_ hSw hb3) (fun hSn => ?_)
 clear hK K hSw
 have hSw := hSn
 clear hSn
 go_simp
 refine wpT (i := 2) (v := ?vhot2) ?hhot2 hSw ?khot2
 case hhot2 => (intro w hSw; (obtain ⟨x, y, z⟩ := HK.out _ hSw; have x0 := x.cell 0; have y0 := y.cell 0; have y1 := y.cell 1; have y2 := y.cell 2; have y3 := y.cell 3; have y4 := y.cell 4; have y5 := y.cell 5; have z0 := z.box.cell 0; simp only [gE0, gE1] at x0 y0 y1 y2 y3 y4 y5 z0; clear x y z); go_simp; try (with_reducible rfl))
 go_simp
 refine wpT (i := 3) (v := ?vhot3) ?hhot3 hSw ?khot3
 case hhot3 => (intro w hSw; (obtain ⟨x, y, z⟩ := HK.out _ hSw; have x0 := x.cell 0; have y0 := y.cell 0; have y1 := y.cell 1; have y2 := y.cell 2; have y3 := y.cell 3; have y4 := y.cell 4; have y5 := y.cell 5; have z0 := z.box.cell 0; simp only [gE0, gE1] at x0 y0 y1 y2 y3 y4 y5 z0; clear x y z); go_simp; try (with_reducible rfl))
 go_simp
 refine wpT (i := 4) (v := ?vhot4) ?hhot4 hSw ?khot4
 case hhot4 => (intro w hSw; (obtain ⟨x, y, z⟩ := HK.out _ hSw; have x0 := x.cell 0; have y0 := y.cell 0; have y1 := y.cell 1; have y2 := y.cell 2; have y3 := y.cell 3; have y4 := y.cell 4; have y5 := y.cell 5; have z0 := z.box.cell 0; simp only [gE0, gE1] at x0 y0 y1 y2 y3 y4 y5 z0; clear x y z); go_simp; try (with_reducible rfl))
 go_simp
 refine wpT (i := 5) (v := ?vhot5) ?hhot5 hSw ?khot5
 case hhot5 => (intro w hSw; (obtain ⟨x, y, z⟩ := HK.out _ hSw; have x0 := x.cell 0; have y0 := y.cell 0; have y1 := y.cell 1; have y2 := y.cell 2; have y3 := y.cell 3; have y4 := y.cell 4; have y5 := y.cell 5; have z0 := z.box.cell 0; simp only [gE0, gE1] at x0 y0 y1 y2 y3 y4 y5 z0; clear x y z); go_simp; try (with_reducible rfl))
 go_simp
 refine wpT (i := 6) (v := ?vhot6) ?hhot6 hSw ?khot6
 case hhot6 => (intro w hSw; (obtain ⟨x, y, z⟩ := HK.out _ hSw; have x0 := x.cell 0; have y0 := y.cell 0; have y1 := y.cell 1; have y2 := y.cell 2; have y3 := y.cell 3; have y4 := y.cell 4; have y5 := y.cell 5; have z0 := z.box.cell 0; simp only [gE0, gE1] at x0 y0 y1 y2 y3 y4 y5 z0; clear x y z); go_simp; try (with_reducible rfl))
 go_simp
 refine wpT (i := 7) (v := ?vhot7) ?hhot7 hSw ?khot7
 case hhot7 => (intro w hSw; (obtain ⟨x, y, z⟩ := HK.out _ hSw; have x0 := x.cell 0; have y0 := y.cell 0; have y1 := y.cell 1; have y2 := y.cell 2; have y3 := y.cell 3; have y4 := y.cell 4; have y5 := y.cell 5; have z0 := z.box.cell 0; simp only [gE0, gE1] at x0 y0 y1 y2 y3 y4 y5 z0; clear x y z); go_simp; try (with_reducible rfl))
 go_simp
 refine wpT (i := 8) (v := ?vhot8) ?hhot8 hSw ?khot8
 case hhot8 => (intro w hSw; (obtain ⟨x, y, z⟩ := HK.out _ hSw; have x0 := x.cell 0; have y0 := y.cell 0; have y1 := y.cell 1; have y2 := y.cell 2; have y3 := y.cell 3; have y4 := y.cell 4; have y5 := y.cell 5; have z0 := z.box.cell 0; simp only [gE0, gE1] at x0 y0 y1 y2 y3 y4 y5 z0; clear x y z); go_simp; try (with_reducible rfl))
 go_simp
 refine wpT (i := 9) (v := ?vhot9) ?hhot9 hSw ?khot9
 case hhot9 => (intro w hSw; (obtain ⟨x, y, z⟩ := HK.out _ hSw; have x0 := x.cell 0; have y0 := y.cell 0; have y1 := y.cell 1; have y2 := y.cell 2; have y3 := y.cell 3; have y4 := y.cell 4; have y5 := y.cell 5; have z0 := z.box.cell 0; simp only [gE0, gE1] at x0 y0 y1 y2 y3 y4 y5 z0; clear x y z); go_simp; try (with_reducible rfl))
 go_simp
 refine wpT (i := 10) (v := ?vhot10) ?hhot10 hSw ?khot10
 case hhot10 => (intro w hSw; (obtain ⟨x, y, z⟩ := HK.out _ hSw; have x0 := x.cell 0; have y0 := y.cell 0; have y1 := y.cell 1; have y2 := y.cell 2; have y3 := y.cell 3; have y4 := y.cell 4; have y5 := y.cell 5; have z0 := z.box.cell 0; simp only [gE0, gE1] at x0 y0 y1 y2 y3 y4 y5 z0; clear x y z); go_simp; try (with_reducible rfl))
 go_simp
 refine wpT (i := 11) (v := ?vhot11) ?hhot11 hSw ?khot11
 case hhot11 => (intro w hSw; (obtain ⟨x, y, z⟩ := HK.out _ hSw; have x0 := x.cell 0; have y0 := y.cell 0; have y1 := y.cell 1; have y2 := y.cell 2; have y3 := y.cell 3; have y4 := y.cell 4; have y5 := y.cell 5; have z0 := z.box.cell 0; simp only [gE0, gE1] at x0 y0 y1 y2 y3 y4 y5 z0; clear x y z); go_simp; try (with_reducible rfl))
 go_simp
 refine wpAnyH_done (by kernel_rfl) ?_ _
 have hb4 := later_ (below_drew (Below.refl W.heap.size W)) hb3
 clear hSw hb3 HMO
 obtain ⟨x, y, z⟩ := HK.out _ hb4
 have x0 := x.cell 0
 have z1 := z.box.cell 1
 simp only [gE0, gE1] at x0 z1
 have HME := Lib.hid (smeta_any z.at_ (by have := hN.files; omega))
 have HB4 := Lib.hid hb4
 clear x y z hb4
 go_wp2_with fail
 with_reducible refine HME.out.mono ?_
 rintro e w4 ⟨rfl, hb5⟩
 obtain ⟨mt, hmt⟩ : ∃ mt, mt = St.meta_ V := ⟨_, rfl⟩
 have HB5 := Lib.hid (later_ HB4.out hb5)
 have hb6 := later_ HB5.out ((Below.refl w4.heap.size w4).alloc (Nat.le_refl _) (.cells #[.int .u64 (mt.floor : Int), .int .u64 (mt.cert : Int), .int .u64 (mt.at_ : Int), .int .u64 (mt.lease : Int)] 32))
 have HX6 := Lib.hid (BoxO.new w4 #[.int .u64 (mt.floor : Int), .int .u64 (mt.cert : Int), .int .u64 (mt.at_ : Int), .int .u64 (mt.lease : Int)] 32)
 have HB6 := Lib.hid hb6
 rw [← hmt]
 unfold Mt.val
 have HMT := Lib.hid hmt
 clear hmt hb5 HME x0 z1 hb6
 obtain ⟨x, y, z⟩ := HK.out _ HB6.out
 have x0 := x.cell 0
 have y0 := y.cell 0
 have y1 := y.cell 1
 have y3 := y.cell 3
 have y4 := y.cell 4
 have y5 := y.cell 5
 have z0 := z.box.cell 0
 have z1 := z.box.cell 1
 simp only [gE0, gE1] at x0 y0 y1 y3 y4 y5 z0 z1
 have HZ : Hid (HPost X Y w S V nb ni now grace frm mi none (.returned (.slice none 0 0)) (w4.alloc (.cells #[.int .u64 (mt.floor : Int), .int .u64 (mt.cert : Int), .int .u64 (mt.at_ : Int), .int .u64 (mt.lease : Int)] 32))) := Lib.hid ((NdUpd.same HH.out (HB.out.trans (HB6.out.mono HB.out.size))).mute (w := w) (Below.refl _ _))
 clear x y z
 go_wp2
 go_ret
 exact HZ.out
theorem hbi_any (h : NdAt w X S Y V nb ni now grace) (hN : Nrm V) (frm : Int) (mi no : Nat) (A : Option Addr) (n c : Nat) (l : List It) (hok : Mq.ok ⟨4, frm, ni, mi, no, A, n, c⟩ l = true) (hn : n ≤ 1000) (hr : Row w.heap.size w A n 5 (itc l)) (hno : 255 < no) :
  Calls Tryz.prog 16 #[.pointer (some ⟨nb, 0, none⟩), .agg #[.int .i64 4, .int .i64 frm, .int .i64 ni, .int .u64 (mi : Int), .int .u64 (no : Int), .slice A n c]] w (HPost X Y w S V nb ni now grace frm mi none) := by
 have hb1 := (Below.refl w.heap.size w).alloc (Nat.le_refl _) (.cells #[.pointer (some ⟨nb, 0, none⟩)] 42)
 have hb2 := hb1.alloc (by simp) (.cells #[.int .i64 4, .int .i64 frm, .int .i64 ni, .int .u64 (mi : Int), .int .u64 (no : Int), .slice A n c] 47)
 have hx0 := (BoxO.new w #[.pointer (some ⟨nb, 0, none⟩)] 42).alloc (.cells #[.int .i64 4, .int .i64 frm, .int .i64 ni, .int .u64 (mi : Int), .int .u64 (no : Int), .slice A n c] 47)
 have hx1 := BoxO.new (w.alloc (.cells #[.pointer (some ⟨nb, 0, none⟩)] 42)) #[.int .i64 4, .int .i64 frm, .int .i64 ni, .int .u64 (mi : Int), .int .u64 (no : Int), .slice A n c] 47
 rw [World.size_alloc] at hx1
 have h2 := h.below hb2
 have hmf : ∀ (fn : Fn) (first cap : Array Value) (w : World), (Instr.makeFunc fn first cap).run Tryz.prog w = .ok (.func fn first cap) w := fun _ _ _ _ => rfl
 obtain ⟨W, hW⟩ : ∃ W, W = (w.alloc (.cells #[.pointer (some ⟨nb, 0, none⟩)] 42)).alloc (.cells #[.int .i64 4, .int .i64 frm, .int .i64 ni, .int .u64 (mi : Int), .int .u64 (no : Int), .slice A n c] 47) := ⟨_, rfl⟩
 obtain ⟨g0, hg0⟩ : ∃ g0, g0 = w.heap.size := ⟨_, rfl⟩
 rw [← hW] at hb2 hx0 hx1 h2
 rw [← hg0] at hx0 hx1
 have hmo := fun W' (hb : Below W.heap.size W W') => mok_any ⟨4, frm, ni, mi, no, A, n, c⟩ l W' (by simp only; omega) ((((hr.below hb2).up hb2.size).below hb).up hb.size)
 simp only [hok] at hmo
 unfold Mq.val at hmo
 simp only at hmo
 have HMO := Lib.hid hmo
 have H2 := Lib.hid h2
 have HX := Lib.hid (And.intro hx0 hx1)
 have HB := Lib.hid hb2
 have HW := Lib.hid (And.intro hW hg0)
 have HROW := Lib.hid ((hr.below hb2).up hb2.size)
 have HL := Lib.hid (And.intro h.at_.lt (And.intro h.box.lt h.at_.dm.env.base))
 have HK := Lib.hid (fun W' (hb : Below W.heap.size W W') => And.intro (hx0.below hb) (And.intro (hx1.below hb) (h2.below hb)))
 have HH := Lib.hid h
 clear hmo h2 hx0 hx1 hb1 hb2 hW hg0 hr h hok
 go_enter Tryz.func16, Tryz.ntmps16
 go_wp2_with fail
 rw [← HW.out.1, ← HW.out.2]
 refine wp_region_held_drew (S := fun w' => Below W.heap.size W w') rfl (below_drew (Below.refl _ _)) (fun hSw => ?_)
 refine wpT (i := 0) (v := ?vhbi0) ?hhbi0 hSw ?khbi0
 case hhbi0 => (intro w hSw; (obtain ⟨x, y, z⟩ := HK.out _ hSw; have x0 := x.cell 0; have y0 := y.cell 0; have y1 := y.cell 1; have y2 := y.cell 2; have y3 := y.cell 3; have y4 := y.cell 4; have y5 := y.cell 5; have z0 := z.box.cell 0; simp only [gE0, gE1] at x0 y0 y1 y2 y3 y4 y5 z0; clear x y z); go_simp; try (with_reducible rfl))
 go_simp
 refine wpAnyH_ready (rs := [1]) (by kernel_rfl) (by simp) ?_
 refine AllReadyH.cons rfl (fun K hK => ?_) AllReadyH.nil
 go_simp
 with_reducible refine (HMO.out _ hSw).mono ?_
 rintro e w3 ⟨rfl, hb3⟩
 go_simp
 refine hK.out _ _ (later_ hSw hb3) (fun hSn => ?_)
 clear hK K hSw
 have hSw := hSn
 clear hSn
 go_simp
 refine wpT (i := 2) (v := ?vhbi2) ?hhbi2 hSw ?khbi2
 case hhbi2 => (intro w hSw; (obtain ⟨x, y, z⟩ := HK.out _ hSw; have x0 := x.cell 0; have y0 := y.cell 0; have y1 := y.cell 1; have y2 := y.cell 2; have y3 := y.cell 3; have y4 := y.cell 4; have y5 := y.cell 5; have z0 := z.box.cell 0; simp only [gE0, gE1] at x0 y0 y1 y2 y3 y4 y5 z0; clear x y z); go_simp; try (with_reducible rfl))
 go_simp
 refine wpT (i := 3) (v := ?vhbi3) ?hhbi3 hSw ?khbi3
 case hhbi3 => (intro w hSw; (obtain ⟨x, y, z⟩ := HK.out _ hSw; have x0 := x.cell 0; have y0 := y.cell 0; have y1 := y.cell 1; have y2 := y.cell 2; have y3 := y.cell 3; have y4 := y.cell 4; have y5 := y.cell 5; have z0 := z.box.cell 0; simp only [gE0, gE1] at x0 y0 y1 y2 y3 y4 y5 z0; clear x y z); go_simp; try (with_reducible rfl))
 go_simp
 refine wpT (i := 4) (v := ?vhbi4) ?hhbi4 hSw ?khbi4
 case hhbi4 => (intro w hSw; (obtain ⟨x, y, z⟩ := HK.out _ hSw; have x0 := x.cell 0; have y0 := y.cell 0; have y1 := y.cell 1; have y2 := y.cell 2; have y3 := y.cell 3; have y4 := y.cell 4; have y5 := y.cell 5; have z0 := z.box.cell 0; simp only [gE0, gE1] at x0 y0 y1 y2 y3 y4 y5 z0; clear x y z); go_simp; try (with_reducible rfl))
 go_simp
 refine wpT (i := 5) (v := ?vhbi5) ?hhbi5 hSw ?khbi5
 case hhbi5 => (intro w hSw; (obtain ⟨x, y, z⟩ := HK.out _ hSw; have x0 := x.cell 0; have y0 := y.cell 0; have y1 := y.cell 1; have y2 := y.cell 2; have y3 := y.cell 3; have y4 := y.cell 4; have y5 := y.cell 5; have z0 := z.box.cell 0; simp only [gE0, gE1] at x0 y0 y1 y2 y3 y4 y5 z0; clear x y z); go_simp; try (with_reducible rfl))
 go_simp
 refine wpT (i := 6) (v := ?vhbi6) ?hhbi6 hSw ?khbi6
 case hhbi6 => (intro w hSw; (obtain ⟨x, y, z⟩ := HK.out _ hSw; have x0 := x.cell 0; have y0 := y.cell 0; have y1 := y.cell 1; have y2 := y.cell 2; have y3 := y.cell 3; have y4 := y.cell 4; have y5 := y.cell 5; have z0 := z.box.cell 0; simp only [gE0, gE1] at x0 y0 y1 y2 y3 y4 y5 z0; clear x y z); go_simp; try (with_reducible rfl))
 go_simp
 refine wpT (i := 7) (v := ?vhbi7) ?hhbi7 hSw ?khbi7
 case hhbi7 => (intro w hSw; (obtain ⟨x, y, z⟩ := HK.out _ hSw; have x0 := x.cell 0; have y0 := y.cell 0; have y1 := y.cell 1; have y2 := y.cell 2; have y3 := y.cell 3; have y4 := y.cell 4; have y5 := y.cell 5; have z0 := z.box.cell 0; simp only [gE0, gE1] at x0 y0 y1 y2 y3 y4 y5 z0; clear x y z); go_simp; try (with_reducible rfl))
 go_simp
 refine wpT (i := 8) (v := ?vhbi8) ?hhbi8 hSw ?khbi8
 case hhbi8 => (intro w hSw; (obtain ⟨x, y, z⟩ := HK.out _ hSw; have x0 := x.cell 0; have y0 := y.cell 0; have y1 := y.cell 1; have y2 := y.cell 2; have y3 := y.cell 3; have y4 := y.cell 4; have y5 := y.cell 5; have z0 := z.box.cell 0; simp only [gE0, gE1] at x0 y0 y1 y2 y3 y4 y5 z0; clear x y z); go_simp; try (with_reducible rfl))
 go_simp
 refine wpT (i := 9) (v := ?vhbi9) ?hhbi9 hSw ?khbi9
 case hhbi9 => (intro w hSw; (obtain ⟨x, y, z⟩ := HK.out _ hSw; have x0 := x.cell 0; have y0 := y.cell 0; have y1 := y.cell 1; have y2 := y.cell 2; have y3 := y.cell 3; have y4 := y.cell 4; have y5 := y.cell 5; have z0 := z.box.cell 0; simp only [gE0, gE1] at x0 y0 y1 y2 y3 y4 y5 z0; clear x y z); go_simp; try (with_reducible rfl))
 go_simp
 refine wpT (i := 10) (v := ?vhbi10) ?hhbi10 hSw ?khbi10
 case hhbi10 => (intro w hSw; (obtain ⟨x, y, z⟩ := HK.out _ hSw; have x0 := x.cell 0; have y0 := y.cell 0; have y1 := y.cell 1; have y2 := y.cell 2; have y3 := y.cell 3; have y4 := y.cell 4; have y5 := y.cell 5; have z0 := z.box.cell 0; simp only [gE0, gE1] at x0 y0 y1 y2 y3 y4 y5 z0; clear x y z); go_simp; try (with_reducible rfl))
 go_simp
 refine wpT (i := 11) (v := ?vhbi11) ?hhbi11 hSw ?khbi11
 case hhbi11 => (intro w hSw; (obtain ⟨x, y, z⟩ := HK.out _ hSw; have x0 := x.cell 0; have y0 := y.cell 0; have y1 := y.cell 1; have y2 := y.cell 2; have y3 := y.cell 3; have y4 := y.cell 4; have y5 := y.cell 5; have z0 := z.box.cell 0; simp only [gE0, gE1] at x0 y0 y1 y2 y3 y4 y5 z0; clear x y z); go_simp; try (with_reducible rfl))
 go_simp
 refine wpAnyH_done (by kernel_rfl) ?_ _
 have hb4 := later_ (below_drew (Below.refl W.heap.size W)) hb3
 clear hSw hb3 HMO
 obtain ⟨x, y, z⟩ := HK.out _ hb4
 have x0 := x.cell 0
 have z1 := z.box.cell 1
 simp only [gE0, gE1] at x0 z1
 have HME := Lib.hid (smeta_any z.at_ (by have := hN.files; omega))
 have HB4 := Lib.hid hb4
 clear x y z hb4
 go_wp2_with fail
 with_reducible refine HME.out.mono ?_
 rintro e w4 ⟨rfl, hb5⟩
 obtain ⟨mt, hmt⟩ : ∃ mt, mt = St.meta_ V := ⟨_, rfl⟩
 have HB5 := Lib.hid (later_ HB4.out hb5)
 have hb6 := later_ HB5.out ((Below.refl w4.heap.size w4).alloc (Nat.le_refl _) (.cells #[.int .u64 (mt.floor : Int), .int .u64 (mt.cert : Int), .int .u64 (mt.at_ : Int), .int .u64 (mt.lease : Int)] 32))
 have HX6 := Lib.hid (BoxO.new w4 #[.int .u64 (mt.floor : Int), .int .u64 (mt.cert : Int), .int .u64 (mt.at_ : Int), .int .u64 (mt.lease : Int)] 32)
 have HB6 := Lib.hid hb6
 rw [← hmt]
 unfold Mt.val
 have HMT := Lib.hid hmt
 clear hmt hb5 HME x0 z1 hb6
 obtain ⟨x, y, z⟩ := HK.out _ HB6.out
 have x0 := x.cell 0
 have y0 := y.cell 0
 have y1 := y.cell 1
 have y3 := y.cell 3
 have y4 := y.cell 4
 have y5 := y.cell 5
 have z0 := z.box.cell 0
 have z1 := z.box.cell 1
 simp only [gE0, gE1] at x0 y0 y1 y3 y4 y5 z0 z1
 have e1 : ((no : Int) ≤ (255 : Int)) = False := eq_false (by omega)
 have HZ : Hid (HPost X Y w S V nb ni now grace frm mi none (.returned (.slice none 0 0)) (w4.alloc (.cells #[.int .u64 (mt.floor : Int), .int .u64 (mt.cert : Int), .int .u64 (mt.at_ : Int), .int .u64 (mt.lease : Int)] 32))) := Lib.hid ((NdUpd.same HH.out (HB.out.trans (HB6.out.mono HB.out.size))).mute (w := w) (Below.refl _ _))
 clear x y z
 go_wp2
 go_ret
 exact HZ.out
theorem hze_any (h : NdAt w X S Y V nb ni now grace) (hN : Nrm V) (frm : Int) (mi no : Nat) (A : Option Addr) (n c : Nat) (l : List It) (hok : Mq.ok ⟨6, frm, ni, mi, no, A, n, c⟩ l = true) (hn : n ≤ 1000) (hr : Row w.heap.size w A n 5 (itc l)) (hno : no = 0) :
  Calls Tryz.prog 16 #[.pointer (some ⟨nb, 0, none⟩), .agg #[.int .i64 6, .int .i64 frm, .int .i64 ni, .int .u64 (mi : Int), .int .u64 (no : Int), .slice A n c]] w (HPost X Y w S V nb ni now grace frm mi (some (3, V.M.v.floor, []))) := by
 have hb1 := (Below.refl w.heap.size w).alloc (Nat.le_refl _) (.cells #[.pointer (some ⟨nb, 0, none⟩)] 42)
 have hb2 := hb1.alloc (by simp) (.cells #[.int .i64 6, .int .i64 frm, .int .i64 ni, .int .u64 (mi : Int), .int .u64 (no : Int), .slice A n c] 47)
 have hx0 := (BoxO.new w #[.pointer (some ⟨nb, 0, none⟩)] 42).alloc (.cells #[.int .i64 6, .int .i64 frm, .int .i64 ni, .int .u64 (mi : Int), .int .u64 (no : Int), .slice A n c] 47)
 have hx1 := BoxO.new (w.alloc (.cells #[.pointer (some ⟨nb, 0, none⟩)] 42)) #[.int .i64 6, .int .i64 frm, .int .i64 ni, .int .u64 (mi : Int), .int .u64 (no : Int), .slice A n c] 47
 rw [World.size_alloc] at hx1
 have h2 := h.below hb2
 have hmf : ∀ (fn : Fn) (first cap : Array Value) (w : World), (Instr.makeFunc fn first cap).run Tryz.prog w = .ok (.func fn first cap) w := fun _ _ _ _ => rfl
 obtain ⟨W, hW⟩ : ∃ W, W = (w.alloc (.cells #[.pointer (some ⟨nb, 0, none⟩)] 42)).alloc (.cells #[.int .i64 6, .int .i64 frm, .int .i64 ni, .int .u64 (mi : Int), .int .u64 (no : Int), .slice A n c] 47) := ⟨_, rfl⟩
 obtain ⟨g0, hg0⟩ : ∃ g0, g0 = w.heap.size := ⟨_, rfl⟩
 rw [← hW] at hb2 hx0 hx1 h2
 rw [← hg0] at hx0 hx1
 have hmo := fun W' (hb : Below W.heap.size W W') => mok_any ⟨6, frm, ni, mi, no, A, n, c⟩ l W' (by simp only; omega) ((((hr.below hb2).up hb2.size).below hb).up hb.size)
 simp only [hok] at hmo
 unfold Mq.val at hmo
 simp only at hmo
 have HMO := Lib.hid hmo
 have H2 := Lib.hid h2
 have HX := Lib.hid (And.intro hx0 hx1)
 have HB := Lib.hid hb2
 have HW := Lib.hid (And.intro hW hg0)
 have HROW := Lib.hid ((hr.below hb2).up hb2.size)
 have HL := Lib.hid (And.intro h.at_.lt (And.intro h.box.lt h.at_.dm.env.base))
 have HK := Lib.hid (fun W' (hb : Below W.heap.size W W') => And.intro (hx0.below hb) (And.intro (hx1.below hb) (h2.below hb)))
 have HH := Lib.hid h
 have HN0 := Lib.hid hno
 clear hno
 clear hmo h2 hx0 hx1 hb1 hb2 hW hg0 hr h hok
 go_enter Tryz.func16, Tryz.ntmps16
 go_wp2_with fail
 rw [← HW.out.1, ← HW.out.2]
 refine wp_region_held_drew (S := fun w' => Below W.heap.size W w') rfl (below_drew (Below.refl _ _)) (fun hSw => ?_)
 refine wpT (i := 0) (v := ?vhze0) ?hhze0 hSw ?khze0
 case hhze0 => (intro w hSw; (obtain ⟨x, y, z⟩ := HK.out _ hSw; have x0 := x.cell 0; have y0 := y.cell 0; have y1 := y.cell 1; have y2 := y.cell 2; have y3 := y.cell 3; have y4 := y.cell 4; have y5 := y.cell 5; have z0 := z.box.cell 0; simp only [gE0, gE1] at x0 y0 y1 y2 y3 y4 y5 z0; clear x y z); go_simp; try (with_reducible rfl))
 go_simp
 refine wpAnyH_ready (rs := [1]) (by kernel_rfl) (by simp) ?_
 refine AllReadyH.cons rfl (fun K hK => ?_) AllReadyH.nil
 go_simp
 with_reducible refine (HMO.out _ hSw).mono ?_
 rintro e w3 ⟨rfl, hb3⟩
 go_simp
 refine hK.out _ _ (later_ hSw hb3) (fun hSn => ?_)
 clear hK K hSw
 have hSw := hSn
 clear hSn
 go_simp
 refine wpT (i := 2) (v := ?vhze2) ?hhze2 hSw ?khze2
 case hhze2 => (intro w hSw; (obtain ⟨x, y, z⟩ := HK.out _ hSw; have x0 := x.cell 0; have y0 := y.cell 0; have y1 := y.cell 1; have y2 := y.cell 2; have y3 := y.cell 3; have y4 := y.cell 4; have y5 := y.cell 5; have z0 := z.box.cell 0; simp only [gE0, gE1] at x0 y0 y1 y2 y3 y4 y5 z0; clear x y z); go_simp; try (with_reducible rfl))
 go_simp
 refine wpT (i := 3) (v := ?vhze3) ?hhze3 hSw ?khze3
 case hhze3 => (intro w hSw; (obtain ⟨x, y, z⟩ := HK.out _ hSw; have x0 := x.cell 0; have y0 := y.cell 0; have y1 := y.cell 1; have y2 := y.cell 2; have y3 := y.cell 3; have y4 := y.cell 4; have y5 := y.cell 5; have z0 := z.box.cell 0; simp only [gE0, gE1] at x0 y0 y1 y2 y3 y4 y5 z0; clear x y z); go_simp; try (with_reducible rfl))
 go_simp
 refine wpT (i := 4) (v := ?vhze4) ?hhze4 hSw ?khze4
 case hhze4 => (intro w hSw; (obtain ⟨x, y, z⟩ := HK.out _ hSw; have x0 := x.cell 0; have y0 := y.cell 0; have y1 := y.cell 1; have y2 := y.cell 2; have y3 := y.cell 3; have y4 := y.cell 4; have y5 := y.cell 5; have z0 := z.box.cell 0; simp only [gE0, gE1] at x0 y0 y1 y2 y3 y4 y5 z0; clear x y z); go_simp; try (with_reducible rfl))
 go_simp
 refine wpT (i := 5) (v := ?vhze5) ?hhze5 hSw ?khze5
 case hhze5 => (intro w hSw; (obtain ⟨x, y, z⟩ := HK.out _ hSw; have x0 := x.cell 0; have y0 := y.cell 0; have y1 := y.cell 1; have y2 := y.cell 2; have y3 := y.cell 3; have y4 := y.cell 4; have y5 := y.cell 5; have z0 := z.box.cell 0; simp only [gE0, gE1] at x0 y0 y1 y2 y3 y4 y5 z0; clear x y z); go_simp; try (with_reducible rfl))
 go_simp
 refine wpT (i := 6) (v := ?vhze6) ?hhze6 hSw ?khze6
 case hhze6 => (intro w hSw; (obtain ⟨x, y, z⟩ := HK.out _ hSw; have x0 := x.cell 0; have y0 := y.cell 0; have y1 := y.cell 1; have y2 := y.cell 2; have y3 := y.cell 3; have y4 := y.cell 4; have y5 := y.cell 5; have z0 := z.box.cell 0; simp only [gE0, gE1] at x0 y0 y1 y2 y3 y4 y5 z0; clear x y z); go_simp; try (with_reducible rfl))
 go_simp
 refine wpT (i := 7) (v := ?vhze7) ?hhze7 hSw ?khze7
 case hhze7 => (intro w hSw; (obtain ⟨x, y, z⟩ := HK.out _ hSw; have x0 := x.cell 0; have y0 := y.cell 0; have y1 := y.cell 1; have y2 := y.cell 2; have y3 := y.cell 3; have y4 := y.cell 4; have y5 := y.cell 5; have z0 := z.box.cell 0; simp only [gE0, gE1] at x0 y0 y1 y2 y3 y4 y5 z0; clear x y z); go_simp; try (with_reducible rfl))
 go_simp
 refine wpT (i := 8) (v := ?vhze8) ?hhze8 hSw ?khze8
 case hhze8 => (intro w hSw; (obtain ⟨x, y, z⟩ := HK.out _ hSw; have x0 := x.cell 0; have y0 := y.cell 0; have y1 := y.cell 1; have y2 := y.cell 2; have y3 := y.cell 3; have y4 := y.cell 4; have y5 := y.cell 5; have z0 := z.box.cell 0; simp only [gE0, gE1] at x0 y0 y1 y2 y3 y4 y5 z0; clear x y z); go_simp; try (with_reducible rfl))
 go_simp
 refine wpT (i := 9) (v := ?vhze9) ?hhze9 hSw ?khze9
 case hhze9 => (intro w hSw; (obtain ⟨x, y, z⟩ := HK.out _ hSw; have x0 := x.cell 0; have y0 := y.cell 0; have y1 := y.cell 1; have y2 := y.cell 2; have y3 := y.cell 3; have y4 := y.cell 4; have y5 := y.cell 5; have z0 := z.box.cell 0; simp only [gE0, gE1] at x0 y0 y1 y2 y3 y4 y5 z0; clear x y z); go_simp; try (with_reducible rfl))
 go_simp
 refine wpT (i := 10) (v := ?vhze10) ?hhze10 hSw ?khze10
 case hhze10 => (intro w hSw; (obtain ⟨x, y, z⟩ := HK.out _ hSw; have x0 := x.cell 0; have y0 := y.cell 0; have y1 := y.cell 1; have y2 := y.cell 2; have y3 := y.cell 3; have y4 := y.cell 4; have y5 := y.cell 5; have z0 := z.box.cell 0; simp only [gE0, gE1] at x0 y0 y1 y2 y3 y4 y5 z0; clear x y z); go_simp; try (with_reducible rfl))
 go_simp
 refine wpT (i := 11) (v := ?vhze11) ?hhze11 hSw ?khze11
 case hhze11 => (intro w hSw; (obtain ⟨x, y, z⟩ := HK.out _ hSw; have x0 := x.cell 0; have y0 := y.cell 0; have y1 := y.cell 1; have y2 := y.cell 2; have y3 := y.cell 3; have y4 := y.cell 4; have y5 := y.cell 5; have z0 := z.box.cell 0; simp only [gE0, gE1] at x0 y0 y1 y2 y3 y4 y5 z0; clear x y z); go_simp; try (with_reducible rfl))
 go_simp
 refine wpAnyH_done (by kernel_rfl) ?_ _
 have hb4 := later_ (below_drew (Below.refl W.heap.size W)) hb3
 clear hSw hb3 HMO
 obtain ⟨x, y, z⟩ := HK.out _ hb4
 have x0 := x.cell 0
 have z1 := z.box.cell 1
 simp only [gE0, gE1] at x0 z1
 have HME := Lib.hid (smeta_any z.at_ (by have := hN.files; omega))
 have HB4 := Lib.hid hb4
 clear x y z hb4
 go_wp2_with fail
 with_reducible refine HME.out.mono ?_
 rintro e w4 ⟨rfl, hb5⟩
 obtain ⟨mt, hmt⟩ : ∃ mt, mt = St.meta_ V := ⟨_, rfl⟩
 have HB5 := Lib.hid (later_ HB4.out hb5)
 have hb6 := later_ HB5.out ((Below.refl w4.heap.size w4).alloc (Nat.le_refl _) (.cells #[.int .u64 (mt.floor : Int), .int .u64 (mt.cert : Int), .int .u64 (mt.at_ : Int), .int .u64 (mt.lease : Int)] 32))
 have HX6 := Lib.hid (BoxO.new w4 #[.int .u64 (mt.floor : Int), .int .u64 (mt.cert : Int), .int .u64 (mt.at_ : Int), .int .u64 (mt.lease : Int)] 32)
 have HB6 := Lib.hid hb6
 rw [← hmt]
 unfold Mt.val
 have HMT := Lib.hid hmt
 clear hmt hb5 HME x0 z1 hb6
 obtain ⟨x, y, z⟩ := HK.out _ HB6.out
 have x0 := x.cell 0
 have y0 := y.cell 0
 have y1 := y.cell 1
 have y3 := y.cell 3
 have y4 := y.cell 4
 have y5 := y.cell 5
 have z0 := z.box.cell 0
 have z1 := z.box.cell 1
 simp only [gE0, gE1] at x0 y0 y1 y3 y4 y5 z0 z1
 have hsl := fseal_any mt no (w4.alloc (.cells #[.int .u64 (mt.floor : Int), .int .u64 (mt.cert : Int), .int .u64 (mt.at_ : Int), .int .u64 (mt.lease : Int)] 32))
 rw [if_pos (.inr (.inl HN0.out))] at hsl
 unfold Mt.val at hsl
 have HS2 := Lib.hid hsl
 clear hsl x y z
 go_wp2_with fail
 with_reducible refine HS2.out.mono ?_
 rintro e w7 ⟨rfl, hb7⟩
 have hb8 := (later_ HB6.out hb7)
 have hb9 := later_ hb8 ((Below.refl w7.heap.size w7).alloc (Nat.le_refl _) (.cells #[.int .u64 0, .int .u64 0, .int .u64 0, .int .u64 0] 32))
 have hm9 := (HX6.out.below hb7).alloc (.cells #[.int .u64 0, .int .u64 0, .int .u64 0, .int .u64 0] 32)
 obtain ⟨x, y, z⟩ := HK.out _ hb9
 have q0 := x.cell 0
 have q1 := y.cell 1
 have q3 := y.cell 3
 have p0 := z.box.cell 0
 have m0 := hm9.cell 0
 simp only [gE0, gE1] at q0 q1 q3 p0 m0
 have HAN := Lib.hid (answer_any g0 (g0 + 1) nb frm ni 3 mi mt.floor none 0 0 _ q0 p0 q1 q3)
 have HZ : Hid (∀ e w', e = .returned (.slice (some ⟨(w7.alloc (.cells #[.int .u64 0, .int .u64 0, .int .u64 0, .int .u64 0] 32)).heap.size, 0, none⟩) 1 1) → Below (w7.alloc (.cells #[.int .u64 0, .int .u64 0, .int .u64 0, .int .u64 0] 32)).heap.size (w7.alloc (.cells #[.int .u64 0, .int .u64 0, .int .u64 0, .int .u64 0] 32)) w' → Answ w' (w7.alloc (.cells #[.int .u64 0, .int .u64 0, .int .u64 0, .int .u64 0] 32)).heap.size 3 ni frm mi mt.floor none 0 0 → HPost X Y w S V nb ni now grace frm mi (some (3, V.M.v.floor, [])) e w') := Lib.hid (by
  intro e w' h1 h2 h3
  rw [h1, show V.M.v.floor = mt.floor by rw [HMT.out]; rfl]
  exact HH.out.told (HB.out.trans (hb9.mono HB.out.size)) Row.nil_ (fun a ha => by cases ha) h2 h3)
 clear x y z hm9 hb7 hb8 hb9 HS2 x0 y0 y1 y3 y4 y5 z0 z1
 go_wp2_with fail
 with_reducible refine HAN.out.mono ?_
 rintro e w8 ⟨rfl, h8, ha8⟩
 have hy := HZ.out _ _ rfl h8 ha8
 simp only [World.size_alloc] at hy
 have HY := Lib.hid hy
 clear h8 ha8 HZ HAN hy
 go_wp2
 go_ret
 exact HY.out
theorem hfi_any (h : NdAt w X S Y V nb ni now grace) (hN : Nrm V) (frm : Int) (mi no : Nat) (A : Option Addr) (n c : Nat) (l : List It) (hok : Mq.ok ⟨8, frm, ni, mi, no, A, n, c⟩ l = true) (hn : n ≤ 1000) (hr : Row w.heap.size w A n 5 (itc l)) (hfit : ∀ x ∈ l, x.fit) :
  Calls Tryz.prog 16 #[.pointer (some ⟨nb, 0, none⟩), .agg #[.int .i64 8, .int .i64 frm, .int .i64 ni, .int .u64 (mi : Int), .int .u64 (no : Int), .slice A n c]] w (HPost X Y w (St.fill S V no l).1 (St.fill S V no l).2.1 nb ni now grace frm mi (if (St.fill S V no l).2.2 = true then some (9, no, []) else none)) := by
 obtain ⟨R, hR⟩ : ∃ R, R = St.fill S V no l := ⟨_, rfl⟩
 obtain ⟨an, han⟩ : ∃ an : Option (Int × Nat × List It), an = if (St.fill S V no l).2.2 = true then some (9, no, []) else none := ⟨_, rfl⟩
 rw [← han, ← hR]
 rw [← hR] at han
 have HR := Lib.hid (And.intro hR han)
 clear hR han
 have hb1 := (Below.refl w.heap.size w).alloc (Nat.le_refl _) (.cells #[.pointer (some ⟨nb, 0, none⟩)] 42)
 have hb2 := hb1.alloc (by simp) (.cells #[.int .i64 8, .int .i64 frm, .int .i64 ni, .int .u64 (mi : Int), .int .u64 (no : Int), .slice A n c] 47)
 have hx0 := (BoxO.new w #[.pointer (some ⟨nb, 0, none⟩)] 42).alloc (.cells #[.int .i64 8, .int .i64 frm, .int .i64 ni, .int .u64 (mi : Int), .int .u64 (no : Int), .slice A n c] 47)
 have hx1 := BoxO.new (w.alloc (.cells #[.pointer (some ⟨nb, 0, none⟩)] 42)) #[.int .i64 8, .int .i64 frm, .int .i64 ni, .int .u64 (mi : Int), .int .u64 (no : Int), .slice A n c] 47
 rw [World.size_alloc] at hx1
 have h2 := h.below hb2
 have hmf : ∀ (fn : Fn) (first cap : Array Value) (w : World), (Instr.makeFunc fn first cap).run Tryz.prog w = .ok (.func fn first cap) w := fun _ _ _ _ => rfl
 obtain ⟨W, hW⟩ : ∃ W, W = (w.alloc (.cells #[.pointer (some ⟨nb, 0, none⟩)] 42)).alloc (.cells #[.int .i64 8, .int .i64 frm, .int .i64 ni, .int .u64 (mi : Int), .int .u64 (no : Int), .slice A n c] 47) := ⟨_, rfl⟩
 obtain ⟨g0, hg0⟩ : ∃ g0, g0 = w.heap.size := ⟨_, rfl⟩
 rw [← hW] at hb2 hx0 hx1 h2
 rw [← hg0] at hx0 hx1
 have hmo := fun W' (hb : Below W.heap.size W W') => mok_any ⟨8, frm, ni, mi, no, A, n, c⟩ l W' (by simp only; omega) ((((hr.below hb2).up hb2.size).below hb).up hb.size)
 simp only [hok] at hmo
 unfold Mq.val at hmo
 simp only at hmo
 have HMO := Lib.hid hmo
 have H2 := Lib.hid h2
 have HX := Lib.hid (And.intro hx0 hx1)
 have HB := Lib.hid hb2
 have HW := Lib.hid (And.intro hW hg0)
 have HROW := Lib.hid ((hr.below hb2).up hb2.size)
 have HL := Lib.hid (And.intro h.at_.lt (And.intro h.box.lt h.at_.dm.env.base))
 have HK := Lib.hid (fun W' (hb : Below W.heap.size W W') => And.intro (hx0.below hb) (And.intro (hx1.below hb) (h2.below hb)))
 have HH := Lib.hid h
 clear hmo h2 hx0 hx1 hb1 hb2 hW hg0 hr h hok
 go_enter Tryz.func16, Tryz.ntmps16
 go_wp2_with fail
 rw [← HW.out.1, ← HW.out.2]
 refine wp_region_held_drew (S := fun w' => Below W.heap.size W w') rfl (below_drew (Below.refl _ _)) (fun hSw => ?_)
 refine wpT (i := 0) (v := ?vhfi0) ?hhfi0 hSw ?khfi0
 case hhfi0 => (intro w hSw; (obtain ⟨x, y, z⟩ := HK.out _ hSw; have x0 := x.cell 0; have y0 := y.cell 0; have y1 := y.cell 1; have y2 := y.cell 2; have y3 := y.cell 3; have y4 := y.cell 4; have y5 := y.cell 5; have z0 := z.box.cell 0; simp only [gE0, gE1] at x0 y0 y1 y2 y3 y4 y5 z0; clear x y z); go_simp; try (with_reducible rfl))
 go_simp
 refine wpAnyH_ready (rs := [1]) (by kernel_rfl) (by simp) ?_
 refine AllReadyH.cons rfl (fun K hK => ?_) AllReadyH.nil
 go_simp
 with_reducible refine (HMO.out _ hSw).mono ?_
 rintro e w3 ⟨rfl, hb3⟩
 go_simp
 refine hK.out _ _ (later_ hSw hb3) (fun hSn => ?_)
 clear hK K hSw
 have hSw := hSn
 clear hSn
 go_simp
 refine wpT (i := 2) (v := ?vhfi2) ?hhfi2 hSw ?khfi2
 case hhfi2 => (intro w hSw; (obtain ⟨x, y, z⟩ := HK.out _ hSw; have x0 := x.cell 0; have y0 := y.cell 0; have y1 := y.cell 1; have y2 := y.cell 2; have y3 := y.cell 3; have y4 := y.cell 4; have y5 := y.cell 5; have z0 := z.box.cell 0; simp only [gE0, gE1] at x0 y0 y1 y2 y3 y4 y5 z0; clear x y z); go_simp; try (with_reducible rfl))
 go_simp
 refine wpT (i := 3) (v := ?vhfi3) ?hhfi3 hSw ?khfi3
 case hhfi3 => (intro w hSw; (obtain ⟨x, y, z⟩ := HK.out _ hSw; have x0 := x.cell 0; have y0 := y.cell 0; have y1 := y.cell 1; have y2 := y.cell 2; have y3 := y.cell 3; have y4 := y.cell 4; have y5 := y.cell 5; have z0 := z.box.cell 0; simp only [gE0, gE1] at x0 y0 y1 y2 y3 y4 y5 z0; clear x y z); go_simp; try (with_reducible rfl))
 go_simp
 refine wpT (i := 4) (v := ?vhfi4) ?hhfi4 hSw ?khfi4
 case hhfi4 => (intro w hSw; (obtain ⟨x, y, z⟩ := HK.out _ hSw; have x0 := x.cell 0; have y0 := y.cell 0; have y1 := y.cell 1; have y2 := y.cell 2; have y3 := y.cell 3; have y4 := y.cell 4; have y5 := y.cell 5; have z0 := z.box.cell 0; simp only [gE0, gE1] at x0 y0 y1 y2 y3 y4 y5 z0; clear x y z); go_simp; try (with_reducible rfl))
 go_simp
 refine wpT (i := 5) (v := ?vhfi5) ?hhfi5 hSw ?khfi5
 case hhfi5 => (intro w hSw; (obtain ⟨x, y, z⟩ := HK.out _ hSw; have x0 := x.cell 0; have y0 := y.cell 0; have y1 := y.cell 1; have y2 := y.cell 2; have y3 := y.cell 3; have y4 := y.cell 4; have y5 := y.cell 5; have z0 := z.box.cell 0; simp only [gE0, gE1] at x0 y0 y1 y2 y3 y4 y5 z0; clear x y z); go_simp; try (with_reducible rfl))
 go_simp
 refine wpT (i := 6) (v := ?vhfi6) ?hhfi6 hSw ?khfi6
 case hhfi6 => (intro w hSw; (obtain ⟨x, y, z⟩ := HK.out _ hSw; have x0 := x.cell 0; have y0 := y.cell 0; have y1 := y.cell 1; have y2 := y.cell 2; have y3 := y.cell 3; have y4 := y.cell 4; have y5 := y.cell 5; have z0 := z.box.cell 0; simp only [gE0, gE1] at x0 y0 y1 y2 y3 y4 y5 z0; clear x y z); go_simp; try (with_reducible rfl))
 go_simp
 refine wpT (i := 7) (v := ?vhfi7) ?hhfi7 hSw ?khfi7
 case hhfi7 => (intro w hSw; (obtain ⟨x, y, z⟩ := HK.out _ hSw; have x0 := x.cell 0; have y0 := y.cell 0; have y1 := y.cell 1; have y2 := y.cell 2; have y3 := y.cell 3; have y4 := y.cell 4; have y5 := y.cell 5; have z0 := z.box.cell 0; simp only [gE0, gE1] at x0 y0 y1 y2 y3 y4 y5 z0; clear x y z); go_simp; try (with_reducible rfl))
 go_simp
 refine wpT (i := 8) (v := ?vhfi8) ?hhfi8 hSw ?khfi8
 case hhfi8 => (intro w hSw; (obtain ⟨x, y, z⟩ := HK.out _ hSw; have x0 := x.cell 0; have y0 := y.cell 0; have y1 := y.cell 1; have y2 := y.cell 2; have y3 := y.cell 3; have y4 := y.cell 4; have y5 := y.cell 5; have z0 := z.box.cell 0; simp only [gE0, gE1] at x0 y0 y1 y2 y3 y4 y5 z0; clear x y z); go_simp; try (with_reducible rfl))
 go_simp
 refine wpT (i := 9) (v := ?vhfi9) ?hhfi9 hSw ?khfi9
 case hhfi9 => (intro w hSw; (obtain ⟨x, y, z⟩ := HK.out _ hSw; have x0 := x.cell 0; have y0 := y.cell 0; have y1 := y.cell 1; have y2 := y.cell 2; have y3 := y.cell 3; have y4 := y.cell 4; have y5 := y.cell 5; have z0 := z.box.cell 0; simp only [gE0, gE1] at x0 y0 y1 y2 y3 y4 y5 z0; clear x y z); go_simp; try (with_reducible rfl))
 go_simp
 refine wpT (i := 10) (v := ?vhfi10) ?hhfi10 hSw ?khfi10
 case hhfi10 => (intro w hSw; (obtain ⟨x, y, z⟩ := HK.out _ hSw; have x0 := x.cell 0; have y0 := y.cell 0; have y1 := y.cell 1; have y2 := y.cell 2; have y3 := y.cell 3; have y4 := y.cell 4; have y5 := y.cell 5; have z0 := z.box.cell 0; simp only [gE0, gE1] at x0 y0 y1 y2 y3 y4 y5 z0; clear x y z); go_simp; try (with_reducible rfl))
 go_simp
 refine wpT (i := 11) (v := ?vhfi11) ?hhfi11 hSw ?khfi11
 case hhfi11 => (intro w hSw; (obtain ⟨x, y, z⟩ := HK.out _ hSw; have x0 := x.cell 0; have y0 := y.cell 0; have y1 := y.cell 1; have y2 := y.cell 2; have y3 := y.cell 3; have y4 := y.cell 4; have y5 := y.cell 5; have z0 := z.box.cell 0; simp only [gE0, gE1] at x0 y0 y1 y2 y3 y4 y5 z0; clear x y z); go_simp; try (with_reducible rfl))
 go_simp
 refine wpAnyH_done (by kernel_rfl) ?_ _
 have hb4 := later_ (below_drew (Below.refl W.heap.size W)) hb3
 clear hSw hb3 HMO
 obtain ⟨x, y, z⟩ := HK.out _ hb4
 have x0 := x.cell 0
 have z1 := z.box.cell 1
 simp only [gE0, gE1] at x0 z1
 have HME := Lib.hid (smeta_any z.at_ (by have := hN.files; omega))
 have HB4 := Lib.hid hb4
 clear x y z hb4
 go_wp2_with fail
 with_reducible refine HME.out.mono ?_
 rintro e w4 ⟨rfl, hb5⟩
 obtain ⟨mt, hmt⟩ : ∃ mt, mt = St.meta_ V := ⟨_, rfl⟩
 have HB5 := Lib.hid (later_ HB4.out hb5)
 have hb6 := later_ HB5.out ((Below.refl w4.heap.size w4).alloc (Nat.le_refl _) (.cells #[.int .u64 (mt.floor : Int), .int .u64 (mt.cert : Int), .int .u64 (mt.at_ : Int), .int .u64 (mt.lease : Int)] 32))
 have HX6 := Lib.hid (BoxO.new w4 #[.int .u64 (mt.floor : Int), .int .u64 (mt.cert : Int), .int .u64 (mt.at_ : Int), .int .u64 (mt.lease : Int)] 32)
 have HB6 := Lib.hid hb6
 rw [← hmt]
 unfold Mt.val
 have HMT := Lib.hid hmt
 clear hmt hb5 HME x0 z1 hb6
 obtain ⟨x, y, z⟩ := HK.out _ HB6.out
 have x0 := x.cell 0
 have y0 := y.cell 0
 have y1 := y.cell 1
 have y3 := y.cell 3
 have y4 := y.cell 4
 have y5 := y.cell 5
 have z0 := z.box.cell 0
 have z1 := z.box.cell 1
 simp only [gE0, gE1] at x0 y0 y1 y3 y4 y5 z0 z1
 obtain ⟨hl1, hl2, hl3⟩ := HL.out
 have hgx : ∀ g, w.heap.size ≤ g → g ∉ XY X Y := fun g hg hm => by have := hl1 g hm; omega
 have hnf := nfill_any z hN 8 frm ni mi no A n c l hn ((HROW.out.below HB6.out).up HB6.out.size) hfit
 rw [← HMT.out] at hnf
 unfold Mt.val at hnf
 rw [← HR.out.1] at hnf
 obtain ⟨S1, V1, b⟩ := R
 simp only at hnf ⊢
 have HAN0 := Lib.hid (show an = if b = true then some (9, no, []) else none from HR.out.2)
 clear HR
 have HNF := Lib.hid hnf
 have HXY := Lib.hid (And.intro x y)
 have HGX := Lib.hid hgx
 have y2 := y.cell 2
 simp only [gE0, gE1] at y2
 clear hnf hl1 hl2 hl3 hgx x y z
 go_wp2_with fail
 with_reducible refine HNF.out.mono ?_
 rintro e w8 ⟨rfl, hu⟩
 have HU := Lib.hid hu
 clear x0 y0 y1 y3 y4 y5 z0 z1 y2
 cases b with
 | false =>
  have HZ : Hid (HPost X Y w S1 V1 nb ni now grace frm mi an (.returned (.slice none 0 0)) w8) := Lib.hid (by
   rw [HAN0.out, if_neg (by simp)]
   exact HU.out.mute (HB.out.trans (HB6.out.mono HB.out.size)))
  clear hu
  go_wp2
  go_ret
  exact HZ.out
 | true =>
  obtain ⟨X1, Y1, e1, es, h8, c8, f8, _⟩ := hu
  have hg := HW.out.2
  have q0 := (HXY.out.1.chg c8 (HGX.out _ (by omega))).cell 0
  have q1 := (HXY.out.2.chg c8 (HGX.out _ (by omega))).cell 1
  have q3 := (HXY.out.2.chg c8 (HGX.out _ (by omega))).cell 3
  have q4 := (HXY.out.2.chg c8 (HGX.out _ (by omega))).cell 4
  have p0 := h8.box.cell 0
  simp only [gE0, gE1] at q0 q1 q3 q4 p0
  have HAN := Lib.hid (answer_any g0 (g0 + 1) nb frm ni 9 mi no none 0 0 w8 q0 p0 q1 q3)
  have HZ : Hid (∀ e w', e = .returned (.slice (some ⟨w8.heap.size, 0, none⟩) 1 1) → Below w8.heap.size w8 w' → Answ w' w8.heap.size 9 ni frm mi no none 0 0 → HPost X Y w S1 V1 nb ni now grace frm mi an e w') := Lib.hid (by
   intro e w' h1 h2 h3
   rw [HAN0.out, if_pos rfl]
   exact HU.out.told (HB.out.trans (HB6.out.mono HB.out.size)) Row.nil_ (fun a ha => by cases ha) h1 h2 h3)
  clear hg e1 es h8 c8 f8
  go_wp2_with fail
  with_reducible refine HAN.out.mono ?_
  rintro e w9 ⟨rfl, h9, ha9⟩
  have HY := Lib.hid (HZ.out _ _ rfl h9 ha9)
  clear h9 ha9 HZ HAN q0 q1 q3 q4 p0
  go_wp2
  go_ret
  exact HY.out
end
end Go.Proofs.YtdkjoigpahafmaaGreatDoor
