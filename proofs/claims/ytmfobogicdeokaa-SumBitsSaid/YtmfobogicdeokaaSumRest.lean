/-
  The walk of the law SumRest: it answers true, and changes nothing that was there.
-/
import Derived.Test.YtmfobogicdeokaaSumD
import Derived.Test.YtmfobogicdeokaaPlainCrc
namespace Go.Proofs.Ytmfobogicdeokaa
open Go.RowKit

theorem own_row {base e n c : Nat} {w w' : World} {A : Option Addr} {xs : List Value} (ho : w.ownsRow base e 1 (.slice A n c) n xs) (hb : Below w.heap.size w w') : Row w'.heap.size w' A n 1 xs :=
  ((Row.own ho).below hb).up hb.size
theorem Crc.sum_sealed (l : List UInt8) : Crc.sum (Crc.sealed l) = ~~~ Crc.rest := by
  unfold Crc.sum
  rw [Crc.add_sealed]
theorem Crc.sum_nought : Crc.sum [0, 0, 0, 0] = ~~~ Crc.rest := by
  have : Crc.add Crc.ones (Crc.four 0#32) = Crc.rest := by
    rw [Crc.add_four, BitVec.xor_zero]
    rfl
  unfold Crc.sum
  rw [show ([0, 0, 0, 0] : List UInt8) = Crc.four 0#32 from by decide, this]
theorem of_sealed (A : Option Addr) (n c : Nat) (l : List UInt8) (w : World) (hn : n ≤ c) (hm : c ≤ maxLen) (hr : Row w.heap.size w A n 1 (bts (Crc.sealed l))) :
    Calls Try.prog 18 #[.slice A n c] w fun e w' => e = .returned (.int .u32 ((~~~ Crc.rest).toNat : Int)) ∧ Below w.heap.size w w' := by
  refine (of_any A n c _ w hn hm hr).mono ?_
  rintro e w' ⟨rfl, hb⟩
  exact ⟨by rw [Crc.sum_sealed], hb⟩

set_option maxHeartbeats 400000 in
theorem sumRest_walk (A A' : Option Addr) (n c n' c' : Nat) (l l' : List UInt8) (w : World) (hn : n ≤ c) (hm : c ≤ maxLen) (hr : Row w.heap.size w A n 1 (bts l)) (hn' : n' ≤ c') (hm' : c' ≤ maxLen) (hr' : Row w.heap.size w A' n' 1 (bts l')) :
    Calls Try.prog 4 #[.slice A n c, .slice A' n' c'] w fun e w' => e = .returned (.bool true) ∧ Below w.heap.size w w' := by
  have k1 : c ≤ 9223372036854775807 := hm
  have k2 : c' ≤ 9223372036854775807 := hm'
  by_cases h1 : 2000 < n
  · go_enter Try.func4, Try.ntmps4
    go_wp2_with (go_at_call 15; refine (awake_any _).mono ?_; rintro e w' ⟨rfl, hb⟩)
    go_ret
    exact ⟨rfl, hb⟩
  by_cases h2 : 2000 < n'
  · go_enter Try.func4, Try.ntmps4
    go_wp2_with (go_at_call 15; refine (awake_any _).mono ?_; rintro e w' ⟨rfl, hb⟩)
    go_ret
    exact ⟨rfl, hb⟩
  · go_enter Try.func4, Try.ntmps4
    go_wp2_with fail
    refine (seal_any A n c l w hn hm (by omega) hr).mono ?_
    rintro e w1 ⟨A1, c1, rfl, ho1, hc1, hm1, hb1⟩
    go_wp2_with fail
    refine (seal_any A' n' c' l' w1 hn' hm' (by omega) ((hr'.below hb1).up hb1.size)).mono ?_
    rintro e w2 ⟨A2, c2, rfl, ho2, hc2, hm2, hb2⟩
    go_wp2_with fail
    refine (of_sealed A1 (n + 4) c1 l w2 hc1 hm1 (own_row ho1 hb2)).mono ?_
    rintro e w3 ⟨rfl, hb3⟩
    go_wp2_with fail
    refine (of_sealed A2 (n' + 4) c2 l' w3 hc2 hm2 (own_row ho2 hb3)).mono ?_
    rintro e w4 ⟨rfl, hb4⟩
    have hb24 : Below w2.heap.size w2 w4 := hb3.trans (hb4.mono hb3.size)
    have hb04 : Below w.heap.size w w4 := hb1.trans ((hb2.mono hb1.size).trans (hb24.mono (Nat.le_trans hb1.size hb2.size)))
    go_wp2_with fail
    refine (of_sealed A1 (n + 4) c1 l w4 hc1 hm1 (own_row ho1 (hb2.trans (hb24.mono hb2.size)))).mono ?_
    rintro e w5 ⟨rfl, hb5⟩
    go_wp2_with fail
    refine (of_any _ 4 4 [0, 0, 0, 0] _ (Nat.le_refl _) (by decide) (lit_row w5 [0, 0, 0, 0] _ 4 rfl rfl)).mono ?_
    rintro e w6 ⟨rfl, hb6⟩
    rw [Crc.sum_nought]
    go_wp2_with fail
    refine (awake_any _).mono ?_
    rintro e w7 ⟨rfl, hb7⟩
    go_wp2
    go_ret
    have hb05 := hb04.trans (hb5.mono hb04.size)
    have hb06 : Below w.heap.size w w6 := hb05.trans (((Below.refl _ _).alloc (Nat.le_refl _) _ |>.mono hb05.size).trans (hb6.mono (by have := hb05.size; simp; omega)))
    exact ⟨rfl, hb06.trans (hb7.mono hb06.size)⟩
end Go.Proofs.Ytmfobogicdeokaa
