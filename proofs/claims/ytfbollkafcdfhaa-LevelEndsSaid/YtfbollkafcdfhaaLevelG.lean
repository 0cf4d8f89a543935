/-
  The walk of the law LevelTouch.
-/
import Derived.Test.YtfbollkafcdfhaaLevelF
import Derived.Deep.RegionHeld3
import Derived.Deep.DeepCutAuto
import Derived.Deep.CutBlock
namespace Go.Proofs.Ytfbollkafcdfhaa
open Go.RowKit

/-- A file of one byte's keys, as the law lays it. -/
def tv (num len : Int) (P : Nat) (a b : UInt8) : Hv := ⟨⟨num, 0, [a], [b], len⟩, some ⟨P, 0, none⟩, 1, 1, some ⟨P + 1, 0, none⟩, 1, 1⟩
abbrev twW (w : World) (a b c d : UInt8) : World :=
  ((((((w.alloc (.cells #[.int .u8 (a.toNat : Int)] 5)).alloc (.cells #[.int .u8 (b.toNat : Int)] 5)).alloc (boxOf (tv 1 2 w.heap.size a b))).alloc
    (.cells #[.int .u8 (c.toNat : Int)] 5)).alloc (.cells #[.int .u8 (d.toNat : Int)] 5)).alloc (boxOf (tv 2 2 (w.heap.size + 3) c d))).alloc (boxOf (tv 2 0 (w.heap.size + 3) c d))
theorem row_one {w : World} {P : Nat} {a : UInt8} (h : w.cell? ⟨P, 0, none⟩ = some (.int .u8 (a.toNat : Int))) : Row w.heap.size w (some ⟨P, 0, none⟩) 1 1 (bts [a]) :=
  ⟨rfl, fun j hj => by
    obtain rfl : j = 0 := by simp [bts] at hj; omega
    exact ⟨_, rfl, World.block_lt_of_cell? _ _ h, h⟩⟩
theorem tw_cell (w : World) (a b c d : UInt8) : (twW w a b c d).cell? ⟨w.heap.size, 0, none⟩ = some (.int .u8 (a.toNat : Int)) ∧ (twW w a b c d).cell? ⟨w.heap.size + 1, 0, none⟩ = some (.int .u8 (b.toNat : Int)) ∧
    (twW w a b c d).cell? ⟨w.heap.size + 3, 0, none⟩ = some (.int .u8 (c.toNat : Int)) ∧ (twW w a b c d).cell? ⟨w.heap.size + 4, 0, none⟩ = some (.int .u8 (d.toNat : Int)) := by
  refine ⟨?_, ?_, ?_, ?_⟩
  · iterate 6 (refine cell_up ?_ _)
    rw [World.cell?_alloc_at _ _ _ _ rfl]
    rfl
  · iterate 5 (refine cell_up ?_ _)
    rw [World.cell?_alloc_at _ _ _ _ (by simp)]
    rfl
  · iterate 3 (refine cell_up ?_ _)
    rw [World.cell?_alloc_at _ _ _ _ (by simp)]
    rfl
  · iterate 2 (refine cell_up ?_ _)
    rw [World.cell?_alloc_at _ _ _ _ (by simp)]
    rfl
theorem Box.up {w : World} {p : Nat} {x : Hv} (h : Box w p x) (o : Obj) : Box (w.alloc o) p x := ⟨cell_up h.c0 o, cell_up h.c1 o, cell_up h.c2 o, cell_up h.c3 o, cell_up h.c4 o⟩
theorem tw_box (w : World) (a b c d : UInt8) : Box (twW w a b c d) (w.heap.size + 2) (tv 1 2 w.heap.size a b) ∧ Box (twW w a b c d) (w.heap.size + 5) (tv 2 2 (w.heap.size + 3) c d) ∧ Box (twW w a b c d) (w.heap.size + 6) (tv 2 0 (w.heap.size + 3) c d) := by
  have e : ∀ (X : World) (x : Hv) (n : Nat), X.heap.size = n → Box (X.alloc (boxOf x)) n x := fun X x n h => h ▸ Box.new X x
  exact ⟨((((e _ _ _ (by simp)).up _).up _).up _).up _, (e _ _ _ (by simp)).up _, e _ _ _ (by simp)⟩
theorem tw_below (w : World) (a b c d : UInt8) : Below w.heap.size w (twW w a b c d) := by
  unfold twW
  repeat (refine Below.alloc ?_ (by simp <;> omega) _)
  exact Below.refl _ _
theorem cmp_one (a b : UInt8) : decide (Lib.compareBytes [a] [b] ≤ 0) = decide (a.toNat ≤ b.toNat) := by
  unfold Lib.compareBytes
  split
  · rename_i h
    have := UInt8.lt_iff_toNat_lt.1 h
    simp; omega
  · rename_i h1
    split
    · rename_i h
      have := UInt8.lt_iff_toNat_lt.1 h
      simp; omega
    · rename_i h
      rw [UInt8.lt_iff_toNat_lt] at h
      simp [Lib.compareBytes]; omega
theorem tv_touch (n1 n2 l1 l2 : Int) (P Q : Nat) (a b c d : UInt8) : (tv n1 l1 P a b).hd.touch (tv n2 l2 Q c d).hd = (l1 != 0 && l2 != 0 && decide (a.toNat ≤ d.toNat) && decide (c.toNat ≤ b.toNat)) := by
  show (l1 != 0 && l2 != 0 && decide (Lib.compareBytes [a] [d] ≤ 0) && decide (Lib.compareBytes [c] [b] ≤ 0)) = _
  rw [cmp_one, cmp_one]
theorem tw_ok (w : World) (a b c d : UInt8) : (tv 1 2 w.heap.size a b).ok (twW w a b c d).heap.size (twW w a b c d) ∧ (tv 2 2 (w.heap.size + 3) c d).ok (twW w a b c d).heap.size (twW w a b c d) ∧ (tv 2 0 (w.heap.size + 3) c d).ok (twW w a b c d).heap.size (twW w a b c d) := by
  obtain ⟨h1, h2, h3, h4⟩ := tw_cell w a b c d
  exact ⟨⟨row_one h1, row_one h2⟩, ⟨row_one h3, row_one h4⟩, ⟨row_one h3, row_one h4⟩⟩
/-- Touch, asked of two files that lie as they did at V. -/
theorem touch_at {V : World} {x y : Hv} (hx : x.ok V.heap.size V) (hy : y.ok V.heap.size V) {r : Bool} (hr : x.hd.touch y.hd = r) (w : World) (hb : Below V.heap.size V w) :
    Calls Try.prog 13 #[.agg #[.int .i64 x.hd.num, .int .i64 x.hd.level, .slice x.fa x.fn x.fc, .slice x.la x.ln x.lc, .int .i64 x.hd.len], .agg #[.int .i64 y.hd.num, .int .i64 y.hd.level, .slice y.fa y.fn y.fc, .slice y.la y.ln y.lc, .int .i64 y.hd.len]] w
      fun e w' => e = .returned (.bool r) ∧ Below V.heap.size V w' := by
  have hx' := (hx.below hb).up hb.size
  have hy' := (hy.below hb).up hb.size
  refine (touch_any x.hd y.hd _ _ _ _ _ _ _ _ _ _ _ _ w hx'.first hx'.last hy'.first hy'.last).mono ?_
  rintro e w1 ⟨rfl, hb1⟩
  exact ⟨by rw [hr], later_ hb hb1⟩

theorem awake_at (V w : World) (hb : Below V.heap.size V w) : Calls Try.prog 10 #[] w fun e w' => e = .returned (.bool true) ∧ Below V.heap.size V w' :=
  (awake_any w).mono fun _ _ ⟨he, h⟩ => ⟨he, later_ hb h⟩

set_option linter.unusedSimpArgs false in
set_option maxHeartbeats 8000000 in
theorem levelTouch_walk (a b c d : UInt8) (w : World) :
    Calls Try.prog 6 #[.int .u8 (a.toNat : Int), .int .u8 (b.toNat : Int), .int .u8 (c.toNat : Int), .int .u8 (d.toNat : Int)] w fun e w' => e = .returned (.bool true) ∧ Below w.heap.size w w' := by
  go_enter Try.func6, Try.ntmps6
  go_upto_if 14 with (fail)
  go_cut [0, 1] (fun p q wx => ∃ a b : UInt8, a.toNat ≤ b.toNat ∧ p = .int .u8 (a.toNat : Int) ∧ q = .int .u8 (b.toNat : Int) ∧ w = wx)
  case first =>
    by_cases h1 : b.toNat < a.toNat
    · go_wp2_with fail
      go_meet
      case rel => exact ⟨b, a, by omega, rfl, rfl, rfl⟩
    · go_wp2_with fail
      go_meet
      case rel => exact ⟨a, b, by omega, rfl, rfl, rfl⟩
  case rest =>
    clear a b
    obtain ⟨a, b, hab, rfl, rfl, rfl⟩ := hcut
    go_upto_if 19 with (fail)
    go_cut [2, 3] (fun p q wx => ∃ c d : UInt8, c.toNat ≤ d.toNat ∧ p = .int .u8 (c.toNat : Int) ∧ q = .int .u8 (d.toNat : Int) ∧ w = wx)
    case first =>
      by_cases h1 : d.toNat < c.toNat
      · go_wp2_with fail
        go_meet
        case rel => exact ⟨d, c, by omega, rfl, rfl, rfl⟩
      · go_wp2_with fail
        go_meet
        case rel => exact ⟨c, d, by omega, rfl, rfl, rfl⟩
    case rest =>
      clear c d
      obtain ⟨c, d, hcd, rfl, rfl, rfl⟩ := hcut
      go_wp2_with fail
      have hV := tw_below w a b c d
      obtain ⟨bx, by', bz⟩ := tw_box w a b c d
      obtain ⟨okx, oky, okz⟩ := tw_ok w a b c d
      have txy := tv_touch 1 2 2 2 w.heap.size (w.heap.size + 3) a b c d
      have tyx := tv_touch 2 1 2 2 (w.heap.size + 3) w.heap.size c d a b
      have txx := tv_touch 1 1 2 2 w.heap.size w.heap.size a b a b
      have txz := tv_touch 1 2 2 0 w.heap.size (w.heap.size + 3) a b c d
      have tzz := tv_touch 2 2 0 0 (w.heap.size + 3) (w.heap.size + 3) c d c d
      rw [show (decide (a.toNat ≤ b.toNat)) = true from by simpa using hab] at txx
      change Code.wp _ _ _ _ (twW w a b c d)
      generalize tv 1 2 w.heap.size a b = x at *
      generalize tv 2 2 (w.heap.size + 3) c d = y at *
      generalize tv 2 0 (w.heap.size + 3) c d = z at *
      generalize twW w a b c d = V at *
      rw [show w.heap.size + 2 = w.heap.size + 1 + 1 from rfl] at bx
      rw [show w.heap.size + 5 = w.heap.size + 1 + 1 + 1 + 1 + 1 from rfl] at by'
      rw [show w.heap.size + 6 = w.heap.size + 1 + 1 + 1 + 1 + 1 + 1 from rfl] at bz
      generalize w.heap.size + 1 + 1 + 1 + 1 + 1 + 1 = P11 at *
      generalize w.heap.size + 1 + 1 + 1 + 1 + 1 = P10 at *
      generalize w.heap.size + 1 + 1 = P9 at *
      have hxx : x.hd.touch x.hd = true := by rw [txx]; rfl
      have hxz : x.hd.touch z.hd = false := by rw [txz]; rfl
      have hzz : z.hd.touch z.hd = false := by rw [tzz]; rfl
      clear txx txz tzz
      have KX := Lib.hid (touch_at okx okx hxx)
      have KZ := Lib.hid (touch_at okx okz hxz)
      have KU := Lib.hid (touch_at okz okz hzz)
      clear hxx hxz hzz
      have KB := Lib.hid (fun w' (h : Below V.heap.size V w') => (⟨bx.below h, by'.below h, bz.below h⟩ : Box w' P9 x ∧ Box w' P10 y ∧ Box w' P11 z))
      have KAW := Lib.hid (awake_at V)
      rcases (by omega : (¬ b.toNat < c.toNat ∧ ¬ d.toNat < a.toNat) ∨ b.toNat < c.toNat ∨ (¬ b.toNat < c.toNat ∧ d.toNat < a.toNat)) with ⟨h1, h2⟩ | h1 | ⟨h1, h2⟩
      · have hxy : x.hd.touch y.hd = true := by rw [txy]; simp; omega
        have hyx : y.hd.touch x.hd = true := by rw [tyx]; simp; omega
        clear txy tyx
        have KXY := Lib.hid (touch_at okx oky hxy)
        have KYX := Lib.hid (touch_at oky okx hyx)
        clear hxy hyx okx oky okz bx by' bz
        have HVB := Lib.hid hV
        have V0 : Below V.heap.size V V := Below.refl _ _
        go_region_held3 (fun w' => Below V.heap.size V w' ∧ w'.cell? ⟨P9, 0, none⟩ = some (.int .i64 x.hd.num) ∧ w'.cell? ⟨P9, 1, none⟩ = some (.int .i64 x.hd.level) ∧ w'.cell? ⟨P9, 2, none⟩ = some (.slice x.fa x.fn x.fc) ∧ w'.cell? ⟨P9, 3, none⟩ = some (.slice x.la x.ln x.lc) ∧ w'.cell? ⟨P9, 4, none⟩ = some (.int .i64 x.hd.len) ∧
            w'.cell? ⟨P10, 0, none⟩ = some (.int .i64 y.hd.num) ∧ w'.cell? ⟨P10, 1, none⟩ = some (.int .i64 y.hd.level) ∧ w'.cell? ⟨P10, 2, none⟩ = some (.slice y.fa y.fn y.fc) ∧ w'.cell? ⟨P10, 3, none⟩ = some (.slice y.la y.ln y.lc) ∧ w'.cell? ⟨P10, 4, none⟩ = some (.int .i64 y.hd.len) ∧
            w'.cell? ⟨P11, 0, none⟩ = some (.int .i64 z.hd.num) ∧ w'.cell? ⟨P11, 1, none⟩ = some (.int .i64 z.hd.level) ∧ w'.cell? ⟨P11, 2, none⟩ = some (.slice z.fa z.fn z.fc) ∧ w'.cell? ⟨P11, 3, none⟩ = some (.slice z.la z.ln z.lc) ∧ w'.cell? ⟨P11, 4, none⟩ = some (.int .i64 z.hd.len))
          (first
            | (refine ⟨below_drew V0, ?_⟩; obtain ⟨g1, g2, g3⟩ := KB.out _ (below_drew V0); exact ⟨g1.c0, g1.c1, g1.c2, g1.c3, g1.c4, g2.c0, g2.c1, g2.c2, g2.c3, g2.c4, g3.c0, g3.c1, g3.c2, g3.c3, g3.c4⟩)
            | (refine ⟨hbn, ?_⟩; obtain ⟨g1, g2, g3⟩ := KB.out _ hbn; exact ⟨g1.c0, g1.c1, g1.c2, g1.c3, g1.c4, g2.c0, g2.c1, g2.c2, g2.c3, g2.c4, g3.c0, g3.c1, g3.c2, g3.c3, g3.c4⟩))
          (first
            | (go_at_call 13; ((with_reducible refine (KXY.out _ ?_).mono ?_); (go_split_ands; assumption); rintro e w' ⟨rfl, hbn⟩))
            | (go_at_call 13; ((with_reducible refine (KYX.out _ ?_).mono ?_); (go_split_ands; assumption); rintro e w' ⟨rfl, hbn⟩))
            | (go_at_call 13; ((with_reducible refine (KX.out _ ?_).mono ?_); (go_split_ands; assumption); rintro e w' ⟨rfl, hbn⟩))
            | (go_at_call 13; ((with_reducible refine (KZ.out _ ?_).mono ?_); (go_split_ands; assumption); rintro e w' ⟨rfl, hbn⟩))
            | (go_at_call 13; ((with_reducible refine (KU.out _ ?_).mono ?_); (go_split_ands; assumption); rintro e w' ⟨rfl, hbn⟩))
            | (go_at_call 10; ((with_reducible refine (KAW.out _ ?_).mono ?_); (go_split_ands; assumption); rintro e w' ⟨rfl, hbn⟩)))
        all_goals
          go_split_ands
          go_wp2
          go_ret
          exact ⟨rfl, later_ hV (by assumption)⟩
      · have hxy : x.hd.touch y.hd = false := by rw [txy]; simp; omega
        have hyx : y.hd.touch x.hd = false := by rw [tyx]; simp; omega
        clear txy tyx
        have d1 : decide ((b.toNat : Int) < (c.toNat : Int)) = true := by simp; omega
        have KXY := Lib.hid (touch_at okx oky hxy)
        have KYX := Lib.hid (touch_at oky okx hyx)
        clear hxy hyx okx oky okz bx by' bz
        have HVB := Lib.hid hV
        have V0 : Below V.heap.size V V := Below.refl _ _
        refine wp_region_held_drew (S := fun w' => Below V.heap.size V w') rfl (below_drew (Below.refl _ _)) (fun hSw => ?_)
        refine wpAnyH_take (i := 0) (v := ?v0) rfl (by kernel_rfl) (by kernel_rfl) (by kernel_rfl) (fun _ _ _ h => h) (Or.inl ⟨by rfl, ?h0⟩) hSw ?k0
        case h0 => (intro w hSw; obtain ⟨⟨x0, x1, x2, x3, x4⟩, ⟨y0, y1, y2, y3, y4⟩, ⟨z0, z1, z2, z3, z4⟩⟩ := KB.out w hSw; go_simp; try (with_reducible rfl))
        go_simp
        refine wpAnyH_take (i := 1) (v := ?v1) rfl (by kernel_rfl) (by kernel_rfl) (by kernel_rfl) (fun _ _ _ h => h) (Or.inl ⟨by rfl, ?h1⟩) hSw ?k1
        case h1 => (intro w hSw; obtain ⟨⟨x0, x1, x2, x3, x4⟩, ⟨y0, y1, y2, y3, y4⟩, ⟨z0, z1, z2, z3, z4⟩⟩ := KB.out w hSw; go_simp; try (with_reducible rfl))
        go_simp
        refine wpAnyH_take (i := 3) (v := ?v3) rfl (by kernel_rfl) (by kernel_rfl) (by kernel_rfl) (fun _ _ _ h => h) (Or.inl ⟨by rfl, ?h3⟩) hSw ?k3
        case h3 => (intro w hSw; obtain ⟨⟨x0, x1, x2, x3, x4⟩, ⟨y0, y1, y2, y3, y4⟩, ⟨z0, z1, z2, z3, z4⟩⟩ := KB.out w hSw; go_simp; try (with_reducible rfl))
        go_simp
        refine wpAnyH_take (i := 4) (v := ?v4) rfl (by kernel_rfl) (by kernel_rfl) (by kernel_rfl) (fun _ _ _ h => h) (Or.inl ⟨by rfl, ?h4⟩) hSw ?k4
        case h4 => (intro w hSw; obtain ⟨⟨x0, x1, x2, x3, x4⟩, ⟨y0, y1, y2, y3, y4⟩, ⟨z0, z1, z2, z3, z4⟩⟩ := KB.out w hSw; go_simp; try (with_reducible rfl))
        go_simp
        refine wpAnyH_take (i := 5) (v := ?v5) rfl (by kernel_rfl) (by kernel_rfl) (by kernel_rfl) (fun _ _ _ h => h) (Or.inl ⟨by rfl, ?h5⟩) hSw ?k5
        case h5 => (intro w hSw; obtain ⟨⟨x0, x1, x2, x3, x4⟩, ⟨y0, y1, y2, y3, y4⟩, ⟨z0, z1, z2, z3, z4⟩⟩ := KB.out w hSw; go_simp; try (with_reducible rfl))
        go_simp
        refine wpAnyH_ready (rs := [2]) (by kernel_rfl) (by simp) ?_
        refine AllReadyH.cons rfl (fun K hK => ?_) AllReadyH.nil
        go_simp
        first | ((with_reducible refine (KXY.out _ hSw).mono ?_); rintro e w2 ⟨rfl, hSw2⟩)
        go_simp
        refine hK.out _ _ hSw2 (fun _ => ?_)
        clear hK K hSw
        have hSw := hSw2
        clear hSw2
        go_simp
        refine wpAnyH_take (i := 6) (v := ?v6) rfl (by kernel_rfl) (by kernel_rfl) (by kernel_rfl) (fun _ _ _ h => h) (Or.inl ⟨by rfl, ?h6⟩) hSw ?k6
        case h6 => (intro w hSw; obtain ⟨⟨x0, x1, x2, x3, x4⟩, ⟨y0, y1, y2, y3, y4⟩, ⟨z0, z1, z2, z3, z4⟩⟩ := KB.out w hSw; go_simp; try (with_reducible rfl))
        go_simp
        refine wpAnyH_take (i := 7) (v := undef) rfl (by kernel_rfl) (by kernel_rfl) (by kernel_rfl) (fun _ _ _ h => h) (Or.inr ⟨by rfl, rfl⟩) hSw ?_
        go_simp
        refine wpAnyH_take (i := 8) (v := undef) rfl (by kernel_rfl) (by kernel_rfl) (by kernel_rfl) (fun _ _ _ h => h) (Or.inr ⟨by rfl, rfl⟩) hSw ?_
        go_simp
        refine wpAnyH_take (i := 9) (v := undef) rfl (by kernel_rfl) (by kernel_rfl) (by kernel_rfl) (fun _ _ _ h => h) (Or.inr ⟨by rfl, rfl⟩) hSw ?_
        go_simp
        refine wpAnyH_take (i := 10) (v := ?v10) rfl (by kernel_rfl) (by kernel_rfl) (by kernel_rfl) (fun _ _ _ h => h) (Or.inl ⟨by rfl, ?h10⟩) hSw ?k10
        case h10 => (intro w hSw; obtain ⟨⟨x0, x1, x2, x3, x4⟩, ⟨y0, y1, y2, y3, y4⟩, ⟨z0, z1, z2, z3, z4⟩⟩ := KB.out w hSw; go_simp; try (with_reducible rfl))
        go_simp
        refine wpAnyH_take (i := 11) (v := ?v11) rfl (by kernel_rfl) (by kernel_rfl) (by kernel_rfl) (fun _ _ _ h => h) (Or.inl ⟨by rfl, ?h11⟩) hSw ?k11
        case h11 => (intro w hSw; obtain ⟨⟨x0, x1, x2, x3, x4⟩, ⟨y0, y1, y2, y3, y4⟩, ⟨z0, z1, z2, z3, z4⟩⟩ := KB.out w hSw; go_simp; try (with_reducible rfl))
        go_simp
        refine wpAnyH_take (i := 12) (v := ?v12) rfl (by kernel_rfl) (by kernel_rfl) (by kernel_rfl) (fun _ _ _ h => h) (Or.inl ⟨by rfl, ?h12⟩) hSw ?k12
        case h12 => (intro w hSw; obtain ⟨⟨x0, x1, x2, x3, x4⟩, ⟨y0, y1, y2, y3, y4⟩, ⟨z0, z1, z2, z3, z4⟩⟩ := KB.out w hSw; go_simp; try (with_reducible rfl))
        go_simp
        refine wpAnyH_take (i := 13) (v := ?v13) rfl (by kernel_rfl) (by kernel_rfl) (by kernel_rfl) (fun _ _ _ h => h) (Or.inl ⟨by rfl, ?h13⟩) hSw ?k13
        case h13 => (intro w hSw; obtain ⟨⟨x0, x1, x2, x3, x4⟩, ⟨y0, y1, y2, y3, y4⟩, ⟨z0, z1, z2, z3, z4⟩⟩ := KB.out w hSw; go_simp; try (with_reducible rfl))
        go_simp
        refine wpAnyH_take (i := 14) (v := ?v14) rfl (by kernel_rfl) (by kernel_rfl) (by kernel_rfl) (fun _ _ _ h => h) (Or.inl ⟨by rfl, ?h14⟩) hSw ?k14
        case h14 => (intro w hSw; obtain ⟨⟨x0, x1, x2, x3, x4⟩, ⟨y0, y1, y2, y3, y4⟩, ⟨z0, z1, z2, z3, z4⟩⟩ := KB.out w hSw; go_simp; try (with_reducible rfl))
        go_simp
        refine wpAnyH_take (i := 15) (v := ?v15) rfl (by kernel_rfl) (by kernel_rfl) (by kernel_rfl) (fun _ _ _ h => h) (Or.inl ⟨by rfl, ?h15⟩) hSw ?k15
        case h15 => (intro w hSw; obtain ⟨⟨x0, x1, x2, x3, x4⟩, ⟨y0, y1, y2, y3, y4⟩, ⟨z0, z1, z2, z3, z4⟩⟩ := KB.out w hSw; go_simp; try (with_reducible rfl))
        go_simp
        refine wpAnyH_take (i := 17) (v := ?v17) rfl (by kernel_rfl) (by kernel_rfl) (by kernel_rfl) (fun _ _ _ h => h) (Or.inl ⟨by rfl, ?h17⟩) hSw ?k17
        case h17 => (intro w hSw; obtain ⟨⟨x0, x1, x2, x3, x4⟩, ⟨y0, y1, y2, y3, y4⟩, ⟨z0, z1, z2, z3, z4⟩⟩ := KB.out w hSw; go_simp; try (with_reducible rfl))
        go_simp
        refine wpAnyH_take (i := 18) (v := ?v18) rfl (by kernel_rfl) (by kernel_rfl) (by kernel_rfl) (fun _ _ _ h => h) (Or.inl ⟨by rfl, ?h18⟩) hSw ?k18
        case h18 => (intro w hSw; obtain ⟨⟨x0, x1, x2, x3, x4⟩, ⟨y0, y1, y2, y3, y4⟩, ⟨z0, z1, z2, z3, z4⟩⟩ := KB.out w hSw; go_simp; try (with_reducible rfl))
        go_simp
        refine wpAnyH_ready (rs := [16]) (by kernel_rfl) (by simp) ?_
        refine AllReadyH.cons rfl (fun K hK => ?_) AllReadyH.nil
        go_simp
        first | ((with_reducible refine (KXY.out _ hSw).mono ?_); rintro e w16 ⟨rfl, hSw16⟩)
        go_simp
        refine hK.out _ _ hSw16 (fun _ => ?_)
        clear hK K hSw
        have hSw := hSw16
        clear hSw16
        go_simp
        refine wpAnyH_ready (rs := [19]) (by kernel_rfl) (by simp) ?_
        refine AllReadyH.cons rfl (fun K hK => ?_) AllReadyH.nil
        go_simp
        first | ((with_reducible refine (KYX.out _ hSw).mono ?_); rintro e w19 ⟨rfl, hSw19⟩)
        go_simp
        refine hK.out _ _ hSw19 (fun _ => ?_)
        clear hK K hSw
        have hSw := hSw19
        clear hSw19
        go_simp
        refine wpAnyH_take (i := 20) (v := ?v20) rfl (by kernel_rfl) (by kernel_rfl) (by kernel_rfl) (fun _ _ _ h => h) (Or.inl ⟨by rfl, ?h20⟩) hSw ?k20
        case h20 => (intro w hSw; obtain ⟨⟨x0, x1, x2, x3, x4⟩, ⟨y0, y1, y2, y3, y4⟩, ⟨z0, z1, z2, z3, z4⟩⟩ := KB.out w hSw; go_simp; try (with_reducible rfl))
        go_simp
        refine wpAnyH_take (i := 21) (v := ?v21) rfl (by kernel_rfl) (by kernel_rfl) (by kernel_rfl) (fun _ _ _ h => h) (Or.inl ⟨by rfl, ?h21⟩) hSw ?k21
        case h21 => (intro w hSw; obtain ⟨⟨x0, x1, x2, x3, x4⟩, ⟨y0, y1, y2, y3, y4⟩, ⟨z0, z1, z2, z3, z4⟩⟩ := KB.out w hSw; go_simp; try (with_reducible rfl))
        go_simp
        refine wpAnyH_take (i := 22) (v := ?v22) rfl (by kernel_rfl) (by kernel_rfl) (by kernel_rfl) (fun _ _ _ h => h) (Or.inl ⟨by rfl, ?h22⟩) hSw ?k22
        case h22 => (intro w hSw; obtain ⟨⟨x0, x1, x2, x3, x4⟩, ⟨y0, y1, y2, y3, y4⟩, ⟨z0, z1, z2, z3, z4⟩⟩ := KB.out w hSw; go_simp; try (with_reducible rfl))
        go_simp
        refine wpAnyH_take (i := 23) (v := ?v23) rfl (by kernel_rfl) (by kernel_rfl) (by kernel_rfl) (fun _ _ _ h => h) (Or.inl ⟨by rfl, ?h23⟩) hSw ?k23
        case h23 => (intro w hSw; obtain ⟨⟨x0, x1, x2, x3, x4⟩, ⟨y0, y1, y2, y3, y4⟩, ⟨z0, z1, z2, z3, z4⟩⟩ := KB.out w hSw; go_simp; try (with_reducible rfl))
        go_simp
        refine wpAnyH_take (i := 24) (v := ?v24) rfl (by kernel_rfl) (by kernel_rfl) (by kernel_rfl) (fun _ _ _ h => h) (Or.inl ⟨by rfl, ?h24⟩) hSw ?k24
        case h24 => (intro w hSw; obtain ⟨⟨x0, x1, x2, x3, x4⟩, ⟨y0, y1, y2, y3, y4⟩, ⟨z0, z1, z2, z3, z4⟩⟩ := KB.out w hSw; go_simp; try (with_reducible rfl))
        go_simp
        refine wpAnyH_ready (rs := [25]) (by kernel_rfl) (by simp) ?_
        refine AllReadyH.cons rfl (fun K hK => ?_) AllReadyH.nil
        go_simp
        first | ((with_reducible refine (KX.out _ hSw).mono ?_); rintro e w25 ⟨rfl, hSw25⟩)
        go_simp
        refine hK.out _ _ hSw25 (fun _ => ?_)
        clear hK K hSw
        have hSw := hSw25
        clear hSw25
        go_simp
        refine wpAnyH_take (i := 26) (v := ?v26) rfl (by kernel_rfl) (by kernel_rfl) (by kernel_rfl) (fun _ _ _ h => h) (Or.inl ⟨by rfl, ?h26⟩) hSw ?k26
        case h26 => (intro w hSw; obtain ⟨⟨x0, x1, x2, x3, x4⟩, ⟨y0, y1, y2, y3, y4⟩, ⟨z0, z1, z2, z3, z4⟩⟩ := KB.out w hSw; go_simp; try (with_reducible rfl))
        go_simp
        refine wpAnyH_take (i := 27) (v := ?v27) rfl (by kernel_rfl) (by kernel_rfl) (by kernel_rfl) (fun _ _ _ h => h) (Or.inl ⟨by rfl, ?h27⟩) hSw ?k27
        case h27 => (intro w hSw; obtain ⟨⟨x0, x1, x2, x3, x4⟩, ⟨y0, y1, y2, y3, y4⟩, ⟨z0, z1, z2, z3, z4⟩⟩ := KB.out w hSw; go_simp; try (with_reducible rfl))
        go_simp
        refine wpAnyH_take (i := 28) (v := ?v28) rfl (by kernel_rfl) (by kernel_rfl) (by kernel_rfl) (fun _ _ _ h => h) (Or.inl ⟨by rfl, ?h28⟩) hSw ?k28
        case h28 => (intro w hSw; obtain ⟨⟨x0, x1, x2, x3, x4⟩, ⟨y0, y1, y2, y3, y4⟩, ⟨z0, z1, z2, z3, z4⟩⟩ := KB.out w hSw; go_simp; try (with_reducible rfl))
        go_simp
        refine wpAnyH_take (i := 29) (v := ?v29) rfl (by kernel_rfl) (by kernel_rfl) (by kernel_rfl) (fun _ _ _ h => h) (Or.inl ⟨by rfl, ?h29⟩) hSw ?k29
        case h29 => (intro w hSw; obtain ⟨⟨x0, x1, x2, x3, x4⟩, ⟨y0, y1, y2, y3, y4⟩, ⟨z0, z1, z2, z3, z4⟩⟩ := KB.out w hSw; go_simp; try (with_reducible rfl))
        go_simp
        refine wpAnyH_ready (rs := [30]) (by kernel_rfl) (by simp) ?_
        refine AllReadyH.cons rfl (fun K hK => ?_) AllReadyH.nil
        go_simp
        first | ((with_reducible refine (KZ.out _ hSw).mono ?_); rintro e w30 ⟨rfl, hSw30⟩)
        go_simp
        refine hK.out _ _ hSw30 (fun _ => ?_)
        clear hK K hSw
        have hSw := hSw30
        clear hSw30
        go_simp
        refine wpAnyH_take (i := 31) (v := ?v31) rfl (by kernel_rfl) (by kernel_rfl) (by kernel_rfl) (fun _ _ _ h => h) (Or.inl ⟨by rfl, ?h31⟩) hSw ?k31
        case h31 => (intro w hSw; obtain ⟨⟨x0, x1, x2, x3, x4⟩, ⟨y0, y1, y2, y3, y4⟩, ⟨z0, z1, z2, z3, z4⟩⟩ := KB.out w hSw; go_simp; try (with_reducible rfl))
        go_simp
        refine wpAnyH_take (i := 32) (v := ?v32) rfl (by kernel_rfl) (by kernel_rfl) (by kernel_rfl) (fun _ _ _ h => h) (Or.inl ⟨by rfl, ?h32⟩) hSw ?k32
        case h32 => (intro w hSw; obtain ⟨⟨x0, x1, x2, x3, x4⟩, ⟨y0, y1, y2, y3, y4⟩, ⟨z0, z1, z2, z3, z4⟩⟩ := KB.out w hSw; go_simp; try (with_reducible rfl))
        go_simp
        refine wpAnyH_take (i := 33) (v := ?v33) rfl (by kernel_rfl) (by kernel_rfl) (by kernel_rfl) (fun _ _ _ h => h) (Or.inl ⟨by rfl, ?h33⟩) hSw ?k33
        case h33 => (intro w hSw; obtain ⟨⟨x0, x1, x2, x3, x4⟩, ⟨y0, y1, y2, y3, y4⟩, ⟨z0, z1, z2, z3, z4⟩⟩ := KB.out w hSw; go_simp; try (with_reducible rfl))
        go_simp
        refine wpAnyH_take (i := 34) (v := ?v34) rfl (by kernel_rfl) (by kernel_rfl) (by kernel_rfl) (fun _ _ _ h => h) (Or.inl ⟨by rfl, ?h34⟩) hSw ?k34
        case h34 => (intro w hSw; obtain ⟨⟨x0, x1, x2, x3, x4⟩, ⟨y0, y1, y2, y3, y4⟩, ⟨z0, z1, z2, z3, z4⟩⟩ := KB.out w hSw; go_simp; try (with_reducible rfl))
        go_simp
        refine wpAnyH_take (i := 35) (v := ?v35) rfl (by kernel_rfl) (by kernel_rfl) (by kernel_rfl) (fun _ _ _ h => h) (Or.inl ⟨by rfl, ?h35⟩) hSw ?k35
        case h35 => (intro w hSw; obtain ⟨⟨x0, x1, x2, x3, x4⟩, ⟨y0, y1, y2, y3, y4⟩, ⟨z0, z1, z2, z3, z4⟩⟩ := KB.out w hSw; go_simp; try (with_reducible rfl))
        go_simp
        refine wpAnyH_ready (rs := [36]) (by kernel_rfl) (by simp) ?_
        refine AllReadyH.cons rfl (fun K hK => ?_) AllReadyH.nil
        go_simp
        first | ((with_reducible refine (KU.out _ hSw).mono ?_); rintro e w36 ⟨rfl, hSw36⟩)
        go_simp
        refine hK.out _ _ hSw36 (fun _ => ?_)
        clear hK K hSw
        have hSw := hSw36
        clear hSw36
        go_simp
        refine wpAnyH_take (i := 37) (v := ?v37) rfl (by kernel_rfl) (by kernel_rfl) (by kernel_rfl) (fun _ _ _ h => h) (Or.inl ⟨by rfl, ?h37⟩) hSw ?k37
        case h37 => (intro w hSw; obtain ⟨⟨x0, x1, x2, x3, x4⟩, ⟨y0, y1, y2, y3, y4⟩, ⟨z0, z1, z2, z3, z4⟩⟩ := KB.out w hSw; go_simp; try (with_reducible rfl))
        go_simp
        refine wpAnyH_take (i := 38) (v := ?v38) rfl (by kernel_rfl) (by kernel_rfl) (by kernel_rfl) (fun _ _ _ h => h) (Or.inl ⟨by rfl, ?h38⟩) hSw ?k38
        case h38 => (intro w hSw; obtain ⟨⟨x0, x1, x2, x3, x4⟩, ⟨y0, y1, y2, y3, y4⟩, ⟨z0, z1, z2, z3, z4⟩⟩ := KB.out w hSw; go_simp; try (with_reducible rfl))
        go_simp
        refine wpAnyH_take (i := 39) (v := ?v39) rfl (by kernel_rfl) (by kernel_rfl) (by kernel_rfl) (fun _ _ _ h => h) (Or.inl ⟨by rfl, ?h39⟩) hSw ?k39
        case h39 => (intro w hSw; obtain ⟨⟨x0, x1, x2, x3, x4⟩, ⟨y0, y1, y2, y3, y4⟩, ⟨z0, z1, z2, z3, z4⟩⟩ := KB.out w hSw; go_simp; try (with_reducible rfl))
        go_simp
        refine wpAnyH_ready (rs := [40]) (by kernel_rfl) (by simp) ?_
        refine AllReadyH.cons rfl (fun K hK => ?_) AllReadyH.nil
        go_simp
        first | ((with_reducible refine (KAW.out _ hSw).mono ?_); rintro e w40 ⟨rfl, hSw40⟩)
        go_simp
        refine hK.out _ _ hSw40 (fun _ => ?_)
        clear hK K hSw
        have hSw := hSw40
        clear hSw40
        go_simp
        refine wpAnyH_take (i := 41) (v := ?v41) rfl (by kernel_rfl) (by kernel_rfl) (by kernel_rfl) (fun _ _ _ h => h) (Or.inl ⟨by rfl, ?h41⟩) hSw ?k41
        case h41 => (intro w hSw; obtain ⟨⟨x0, x1, x2, x3, x4⟩, ⟨y0, y1, y2, y3, y4⟩, ⟨z0, z1, z2, z3, z4⟩⟩ := KB.out w hSw; go_simp; try (with_reducible rfl))
        go_simp
        refine wpAnyH_take (i := 42) (v := ?v42) rfl (by kernel_rfl) (by kernel_rfl) (by kernel_rfl) (fun _ _ _ h => h) (Or.inl ⟨by rfl, ?h42⟩) hSw ?k42
        case h42 => (intro w hSw; obtain ⟨⟨x0, x1, x2, x3, x4⟩, ⟨y0, y1, y2, y3, y4⟩, ⟨z0, z1, z2, z3, z4⟩⟩ := KB.out w hSw; go_simp; try (with_reducible rfl))
        go_simp
        refine wpAnyH_done (by kernel_rfl) ?_ _
        go_wp2
        go_ret
        exact ⟨rfl, later_ hV hSw⟩
      · have hxy : x.hd.touch y.hd = false := by rw [txy]; simp; omega
        have hyx : y.hd.touch x.hd = false := by rw [tyx]; simp; omega
        clear txy tyx
        have KXY := Lib.hid (touch_at okx oky hxy)
        have KYX := Lib.hid (touch_at oky okx hyx)
        clear hxy hyx okx oky okz bx by' bz
        have HVB := Lib.hid hV
        have V0 : Below V.heap.size V V := Below.refl _ _
        go_region_held3 (fun w' => Below V.heap.size V w' ∧ w'.cell? ⟨P9, 0, none⟩ = some (.int .i64 x.hd.num) ∧ w'.cell? ⟨P9, 1, none⟩ = some (.int .i64 x.hd.level) ∧ w'.cell? ⟨P9, 2, none⟩ = some (.slice x.fa x.fn x.fc) ∧ w'.cell? ⟨P9, 3, none⟩ = some (.slice x.la x.ln x.lc) ∧ w'.cell? ⟨P9, 4, none⟩ = some (.int .i64 x.hd.len) ∧
            w'.cell? ⟨P10, 0, none⟩ = some (.int .i64 y.hd.num) ∧ w'.cell? ⟨P10, 1, none⟩ = some (.int .i64 y.hd.level) ∧ w'.cell? ⟨P10, 2, none⟩ = some (.slice y.fa y.fn y.fc) ∧ w'.cell? ⟨P10, 3, none⟩ = some (.slice y.la y.ln y.lc) ∧ w'.cell? ⟨P10, 4, none⟩ = some (.int .i64 y.hd.len) ∧
            w'.cell? ⟨P11, 0, none⟩ = some (.int .i64 z.hd.num) ∧ w'.cell? ⟨P11, 1, none⟩ = some (.int .i64 z.hd.level) ∧ w'.cell? ⟨P11, 2, none⟩ = some (.slice z.fa z.fn z.fc) ∧ w'.cell? ⟨P11, 3, none⟩ = some (.slice z.la z.ln z.lc) ∧ w'.cell? ⟨P11, 4, none⟩ = some (.int .i64 z.hd.len))
          (first
            | (refine ⟨below_drew V0, ?_⟩; obtain ⟨g1, g2, g3⟩ := KB.out _ (below_drew V0); exact ⟨g1.c0, g1.c1, g1.c2, g1.c3, g1.c4, g2.c0, g2.c1, g2.c2, g2.c3, g2.c4, g3.c0, g3.c1, g3.c2, g3.c3, g3.c4⟩)
            | (refine ⟨hbn, ?_⟩; obtain ⟨g1, g2, g3⟩ := KB.out _ hbn; exact ⟨g1.c0, g1.c1, g1.c2, g1.c3, g1.c4, g2.c0, g2.c1, g2.c2, g2.c3, g2.c4, g3.c0, g3.c1, g3.c2, g3.c3, g3.c4⟩))
          (first
            | (go_at_call 13; ((with_reducible refine (KXY.out _ ?_).mono ?_); (go_split_ands; assumption); rintro e w' ⟨rfl, hbn⟩))
            | (go_at_call 13; ((with_reducible refine (KYX.out _ ?_).mono ?_); (go_split_ands; assumption); rintro e w' ⟨rfl, hbn⟩))
            | (go_at_call 13; ((with_reducible refine (KX.out _ ?_).mono ?_); (go_split_ands; assumption); rintro e w' ⟨rfl, hbn⟩))
            | (go_at_call 13; ((with_reducible refine (KZ.out _ ?_).mono ?_); (go_split_ands; assumption); rintro e w' ⟨rfl, hbn⟩))
            | (go_at_call 13; ((with_reducible refine (KU.out _ ?_).mono ?_); (go_split_ands; assumption); rintro e w' ⟨rfl, hbn⟩))
            | (go_at_call 10; ((with_reducible refine (KAW.out _ ?_).mono ?_); (go_split_ands; assumption); rintro e w' ⟨rfl, hbn⟩)))
        all_goals
          go_split_ands
          go_wp2
          go_ret
          exact ⟨rfl, later_ hV (by assumption)⟩
end Go.Proofs.Ytfbollkafcdfhaa
