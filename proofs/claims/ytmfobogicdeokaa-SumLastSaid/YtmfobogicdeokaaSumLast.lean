/-
  The walk of the law SumLast: it answers true, and changes nothing that was there.
-/
import Derived.Test.YtmfobogicdeokaaSumD
import Derived.Test.YtmfobogicdeokaaPlainCrc
namespace Go.Proofs.Ytmfobogicdeokaa
open Go.RowKit

theorem parts2 (A : Option Addr) (n c : Nat) (l : List UInt8) (x : BitVec 32) (w w1 : World) (hn : n ≤ c) (hm : c ≤ maxLen) (hr : Row w.heap.size w A n 1 (bts l)) (hb : Below w.heap.size w w1) :
    Calls Try.prog 16 #[.slice (some ⟨w1.heap.size + 1, 0, none⟩) 2 2] ((w1.alloc (.cells #[.int .u8 ((x.toNat : Int) % 256), .int .u8 ((x.toNat : Int) / 256 % 256), .int .u8 ((x.toNat : Int) / 65536 % 256), .int .u8 ((x.toNat : Int) / 16777216)] 5)).alloc (.cells #[.slice A n c, .slice (some ⟨w1.heap.size, 0, none⟩) 4 4] 22)) fun e w' =>
      e = .returned (.int .u32 ((Crc.sum (l ++ Crc.four x)).toNat : Int)) ∧ Below w.heap.size w w' := by
  have hs := hb.size
  have h1 : Row (w1.heap.size + 1) (w1.alloc (.cells #[.int .u8 ((x.toNat : Int) % 256), .int .u8 ((x.toNat : Int) / 256 % 256), .int .u8 ((x.toNat : Int) / 65536 % 256), .int .u8 ((x.toNat : Int) / 16777216)] 5)) (some ⟨w1.heap.size, 0, none⟩) 4 1 (bts (Crc.four x)) := by
    rw [four_cells]
    exact Row.new w1 _ _ rfl
  generalize hW : w1.alloc (.cells #[.int .u8 ((x.toNat : Int) % 256), .int .u8 ((x.toNat : Int) / 256 % 256), .int .u8 ((x.toNat : Int) / 65536 % 256), .int .u8 ((x.toNat : Int) / 16777216)] 5) = W at h1 ⊢
  have hWs : W.heap.size = w1.heap.size + 1 := by rw [← hW]; simp
  have hbW : Below w.heap.size w W := by rw [← hW]; exact hb.alloc hs _
  have h2 : Row W.heap.size W A n 1 (bts l) := (hr.below hbW).up (by omega)
  rw [← hWs] at h1 ⊢
  have h3 : Rows2 (W.alloc (.cells #[.slice A n c, .slice (some ⟨w1.heap.size, 0, none⟩) 4 4] 22)).heap.size (W.alloc (.cells #[.slice A n c, .slice (some ⟨w1.heap.size, 0, none⟩) 4 4] 22)) (some ⟨W.heap.size, 0, none⟩) 2 [l, Crc.four x] := by
    refine ⟨_, (Row.new W #[.slice A n c, .slice (some ⟨w1.heap.size, 0, none⟩) 4 4] 22 (n := 2) (size := 1) rfl).up (by simp), rfl, fun i hi => ?_⟩
    match i, hi with
    | 0, _ => exact ⟨A, n, c, rfl, hn, hm, (h2.alloc (Nat.le_refl _) _).up (by simp)⟩
    | 1, _ => exact ⟨_, 4, 4, rfl, Nat.le_refl _, by decide, (h1.alloc (Nat.le_refl _) _).up (by simp)⟩
  refine (parts_any _ 2 2 _ _ (by omega) h3).mono ?_
  rintro e w' ⟨rfl, rfl⟩
  exact ⟨ret_eq (int_eq (by simp)), hbW.alloc (by omega) _⟩

set_option maxHeartbeats 400000 in
theorem sumLast_walk (A : Option Addr) (n c : Nat) (l : List UInt8) (x y : BitVec 32) (w : World) (hn : n ≤ c) (hm : c ≤ maxLen) (hr : Row w.heap.size w A n 1 (bts l)) :
    Calls Try.prog 3 #[.slice A n c, .int .u32 (x.toNat : Int), .int .u32 (y.toNat : Int)] w fun e w' => e = .returned (.bool true) ∧ Below w.heap.size w w' := by
  have hm' : c ≤ 9223372036854775807 := hm
  by_cases h3 : 3000 < n
  · go_enter Try.func3, Try.ntmps3
    go_wp2_with (go_at_call 15; refine (awake_any _).mono ?_; rintro e w' ⟨rfl, hb⟩)
    go_ret
    exact ⟨rfl, hb⟩
  · have hx0 : 0 ≤ (x.toNat : Int) := by omega
    have hx1 : (x.toNat : Int) ≤ 4294967295 := by have := x.isLt; omega
    have hy0 : 0 ≤ (y.toNat : Int) := by omega
    have hy1 : (y.toNat : Int) ≤ 4294967295 := by have := y.isLt; omega
    have heq : (((Crc.sum (l ++ Crc.four x)).toNat : Int) == ((Crc.sum (l ++ Crc.four y)).toNat : Int)) = ((x.toNat : Int) == (y.toNat : Int)) := by
      rw [Bool.eq_iff_iff, beq_iff_eq, beq_iff_eq]
      constructor
      · intro h
        have h1 : (Crc.sum (l ++ Crc.four x)).toNat = (Crc.sum (l ++ Crc.four y)).toNat := by omega
        rw [Crc.sum_last (BitVec.eq_of_toNat_eq h1)]
      · intro h
        have h1 : x.toNat = y.toNat := by omega
        rw [BitVec.eq_of_toNat_eq h1]
    generalize hq : ((x.toNat : Int) == (y.toNat : Int)) = q at heq
    go_enter Try.func3, Try.ntmps3
    go_wp2_with fail
    refine (parts2 A n c l x w w hn hm hr (Below.refl _ _)).mono ?_
    rintro e w1 ⟨rfl, hb1⟩
    go_wp2_with fail
    refine (parts2 A n c l y w w1 hn hm hr hb1).mono ?_
    rintro e w2 ⟨rfl, hb2⟩
    go_wp2_with fail
    refine (awake_any _).mono ?_
    rintro e w3 ⟨rfl, hb3⟩
    go_wp2
    go_ret
    exact ⟨rfl, hb2.trans (hb3.mono hb2.size)⟩
end Go.Proofs.Ytmfobogicdeokaa
