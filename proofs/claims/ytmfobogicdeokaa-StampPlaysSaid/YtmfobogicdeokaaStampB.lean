/-
  The walk of the versions' 'awake', and of the law StampMakes: each answers true, and changes nothing that was there.
-/
import Derived.Test.YtmfobogicdeokaaStampA
namespace Go.Proofs.Ytmfobogicdeokaa
open Go.RowKit

theorem below_clk {w w' : World} {g B : Nat} {a : World} (h : Below B a w) (hg : w.grownBy w' (some g)) (hB : B ≤ w.heap.size) (hgB : B ≤ g) : Below B a w' :=
  h.grown hg hB (fun k hk => by injection hk with hk; omega)

set_option maxHeartbeats 400000 in
theorem awake7_any (w : World) : Calls Try.prog 25 #[] w fun e w' => e = .returned (.bool true) ∧ Below w.heap.size w w' := by
  go_enter Try.func25, Try.ntmps25
  go_wp2_with fail
  refine (new_ok 2 0 _ (by omega) (by omega)).mono ?_
  rintro e w1 ⟨g, rfl, hg, hk1, hb1⟩
  go_wp2_with fail
  refine (next_lease g 2 0 0 _ hk1 (by omega) (Nat.le_refl _)).mono ?_
  rintro e w2 ⟨rfl, rfl⟩
  go_wp2_with fail
  refine (renew_yes g 2 0 0 10 _ hk1 (by omega) (by omega)).mono ?_
  rintro e w2 ⟨rfl, hk2, hg2⟩
  have hb2 := below_clk hb1 hg2 hb1.size hg
  go_wp2_with fail
  refine (next_ok g 2 0 10 _ hk2 (by omega) (by omega) (by omega)).mono ?_
  rintro e w3 ⟨rfl, hk3, hg3⟩
  have hb3 := below_clk hb2 hg3 hb2.size hg
  go_wp2_with fail
  refine (now_any g 2 1 10 _ hk3).mono ?_
  rintro e w4 ⟨rfl, rfl⟩
  go_wp2_with fail
  refine (lease_any g 2 1 10 _ hk3).mono ?_
  rintro e w4 ⟨rfl, rfl⟩
  go_wp2
  go_ret
  exact ⟨rfl, hb3⟩

set_option maxHeartbeats 1000000 in
theorem stampMakes_walk (a : BitVec 64) (i : Int) (b : BitVec 64) (k : Int) (v : BitVec 64) (w : World) :
    Calls Try.prog 10 #[.int .u64 (a.toNat : Int), .int .i64 i, .int .u64 (b.toNat : Int), .int .i64 k, .int .u64 (v.toNat : Int)] w fun e w' => e = .returned (.bool true) ∧ Below w.heap.size w w' := by
  obtain ⟨ma, hma, hma1, -⟩ := and_mask64 a 40 (by omega)
  obtain ⟨mb, hmb, hmb1, -⟩ := and_mask64 b 40 (by omega)
  obtain ⟨mv, hmv, -, hmv2⟩ := and_mask64 v 3 (by omega)
  obtain ⟨mi, hmi, hmi1⟩ := and_mask i 2 (by omega)
  obtain ⟨mk, hmk, hmk1⟩ := and_mask k 2 (by omega)
  rw [show ((2 ^ 40 - 1 : Nat) : Int) = 1099511627775 from rfl] at hma hmb
  rw [show ((2 ^ 3 - 1 : Nat) : Int) = 7 from rfl, hmv2] at hmv
  rw [show ((2 ^ 2 - 1 : Nat) : Int) = 3 from rfl] at hmi hmk
  rw [show (2 ^ 40 : Nat) = 1099511627776 from rfl] at hma1 hmb1
  rw [show (2 ^ 3 : Nat) = 8 from rfl] at hmv
  rw [show (2 ^ 2 : Nat) = 4 from rfl] at hmi1 hmk1
  have HV := Lib.hid (show v.toNat < 18446744073709551616 from v.isLt)
  clear hmv2
  generalize a.toNat = A at *
  generalize b.toNat = B at *
  generalize v.toNat = V at *
  rcases (by omega : (i < 0 ∨ 6 < i) ∨ (0 ≤ i ∧ i ≤ 6)) with h1 | ⟨h1, h2⟩
  · rcases (by omega : i < 0 ∨ ¬ i < 0 ∧ 6 < i) with h3 | ⟨h3, h4⟩
    all_goals
      go_enter Try.func10, Try.ntmps10
      go_wp2_with fail
      refine (make_arg _ _ _ h1).mono ?_
      rintro e w1 ⟨rfl, rfl⟩
      go_wp2_with fail
      refine (split_any V _ HV.out).mono ?_
      rintro e w2 ⟨rfl, rfl⟩
      go_wp2_with fail
      refine (make_ok (ma + 1) mi _ (by omega) (by omega) (by omega)).mono ?_
      rintro e w3 ⟨rfl, rfl⟩
      go_wp2_with fail
      refine (make_ok (mb + 1) mk _ (by omega) (by omega) (by omega)).mono ?_
      rintro e w4 ⟨rfl, rfl⟩
      rcases (by omega : ma < mb ∨ (¬ ma < mb ∧ ¬ mb < ma ∧ mi < mk) ∨ (¬ ma < mb ∧ ¬ mb < ma ∧ ¬ mi < mk) ∨ (mb < ma)) with g1 | ⟨g1, g2, g3⟩ | ⟨g1, g2, g3⟩ | g1
      · have f1 : ((ma : Int) + 1) * 8 + (mi : Int) < ((mb : Int) + 1) * 8 + (mk : Int) := by omega
        go_wp2_with (go_at_call 25; refine (awake7_any _).mono ?_; rintro e w5 ⟨rfl, hb5⟩)
        go_ret
        exact ⟨rfl, hb5⟩
      · obtain rfl : ma = mb := by omega
        have f1 : ((ma : Int) + 1) * 8 + (mi : Int) < ((ma : Int) + 1) * 8 + (mk : Int) := by omega
        go_wp2_with (go_at_call 25; refine (awake7_any _).mono ?_; rintro e w5 ⟨rfl, hb5⟩)
        go_ret
        exact ⟨rfl, hb5⟩
      · obtain rfl : ma = mb := by omega
        have f1 : ¬ ((ma : Int) + 1) * 8 + (mi : Int) < ((ma : Int) + 1) * 8 + (mk : Int) := by omega
        go_wp2_with (go_at_call 25; refine (awake7_any _).mono ?_; rintro e w5 ⟨rfl, hb5⟩)
        go_ret
        exact ⟨rfl, hb5⟩
      · have f1 : ¬ ((ma : Int) + 1) * 8 + (mi : Int) < ((mb : Int) + 1) * 8 + (mk : Int) := by omega
        have f2 : ¬ ma < mb := by omega
        have f3 : ((ma : Int) + 1 == (mb : Int) + 1) = false := by rw [beq_eq_false_iff_ne]; omega
        have f4 : ¬ ma = mb := by omega
        have f5 : decide (((ma : Int) + 1) * 8 + (mi : Int) < ((mb : Int) + 1) * 8 + (mk : Int)) = false := decide_eq_false f1
        clear f1
        go_wp2_with (go_at_call 25; refine (awake7_any _).mono ?_; rintro e w5 ⟨rfl, hb5⟩)
        go_ret
        exact ⟨rfl, hb5⟩
  rcases (by omega : (A < 1 ∨ 1099511627776 < A) ∨ (1 ≤ A ∧ A ≤ 1099511627776)) with h3 | ⟨h3, h4⟩
  · rcases (by omega : (A : Int) < 1 ∨ ¬ (A : Int) < 1 ∧ 1099511627776 < (A : Int)) with h5 | ⟨h5, h6⟩
    all_goals
      go_enter Try.func10, Try.ntmps10
      go_wp2_with fail
      refine (make_over _ _ _ h1 h2 (by omega)).mono ?_
      rintro e w1 ⟨rfl, rfl⟩
      go_wp2_with fail
      refine (split_any V _ HV.out).mono ?_
      rintro e w2 ⟨rfl, rfl⟩
      go_wp2_with fail
      refine (make_ok (ma + 1) mi _ (by omega) (by omega) (by omega)).mono ?_
      rintro e w3 ⟨rfl, rfl⟩
      go_wp2_with fail
      refine (make_ok (mb + 1) mk _ (by omega) (by omega) (by omega)).mono ?_
      rintro e w4 ⟨rfl, rfl⟩
      rcases (by omega : ma < mb ∨ (¬ ma < mb ∧ ¬ mb < ma ∧ mi < mk) ∨ (¬ ma < mb ∧ ¬ mb < ma ∧ ¬ mi < mk) ∨ (mb < ma)) with g1 | ⟨g1, g2, g3⟩ | ⟨g1, g2, g3⟩ | g1
      · have f1 : ((ma : Int) + 1) * 8 + (mi : Int) < ((mb : Int) + 1) * 8 + (mk : Int) := by omega
        go_wp2_with (go_at_call 25; refine (awake7_any _).mono ?_; rintro e w5 ⟨rfl, hb5⟩)
        go_ret
        exact ⟨rfl, hb5⟩
      · obtain rfl : ma = mb := by omega
        have f1 : ((ma : Int) + 1) * 8 + (mi : Int) < ((ma : Int) + 1) * 8 + (mk : Int) := by omega
        go_wp2_with (go_at_call 25; refine (awake7_any _).mono ?_; rintro e w5 ⟨rfl, hb5⟩)
        go_ret
        exact ⟨rfl, hb5⟩
      · obtain rfl : ma = mb := by omega
        have f1 : ¬ ((ma : Int) + 1) * 8 + (mi : Int) < ((ma : Int) + 1) * 8 + (mk : Int) := by omega
        go_wp2_with (go_at_call 25; refine (awake7_any _).mono ?_; rintro e w5 ⟨rfl, hb5⟩)
        go_ret
        exact ⟨rfl, hb5⟩
      · have f1 : ¬ ((ma : Int) + 1) * 8 + (mi : Int) < ((mb : Int) + 1) * 8 + (mk : Int) := by omega
        have f2 : ¬ ma < mb := by omega
        have f3 : ((ma : Int) + 1 == (mb : Int) + 1) = false := by rw [beq_eq_false_iff_ne]; omega
        have f4 : ¬ ma = mb := by omega
        have f5 : decide (((ma : Int) + 1) * 8 + (mi : Int) < ((mb : Int) + 1) * 8 + (mk : Int)) = false := decide_eq_false f1
        clear f1
        go_wp2_with (go_at_call 25; refine (awake7_any _).mono ?_; rintro e w5 ⟨rfl, hb5⟩)
        go_ret
        exact ⟨rfl, hb5⟩
  · obtain ⟨I, rfl⟩ := Int.eq_ofNat_of_zero_le h1
    have h3' : (1 : Int) ≤ (A : Int) := by omega
    have h4' : (A : Int) ≤ 1099511627776 := by omega
    all_goals
      go_enter Try.func10, Try.ntmps10
      go_wp2_with fail
      refine (make_ok A I _ (by omega) h3 h4).mono ?_
      rintro e w1 ⟨rfl, rfl⟩
      go_wp2_with fail
      refine (split_any V _ HV.out).mono ?_
      rintro e w2 ⟨rfl, rfl⟩
      go_wp2_with fail
      refine (make_ok (ma + 1) mi _ (by omega) (by omega) (by omega)).mono ?_
      rintro e w3 ⟨rfl, rfl⟩
      go_wp2_with fail
      refine (make_ok (mb + 1) mk _ (by omega) (by omega) (by omega)).mono ?_
      rintro e w4 ⟨rfl, rfl⟩
      rcases (by omega : ma < mb ∨ (¬ ma < mb ∧ ¬ mb < ma ∧ mi < mk) ∨ (¬ ma < mb ∧ ¬ mb < ma ∧ ¬ mi < mk) ∨ (mb < ma)) with g1 | ⟨g1, g2, g3⟩ | ⟨g1, g2, g3⟩ | g1
      · have f1 : ((ma : Int) + 1) * 8 + (mi : Int) < ((mb : Int) + 1) * 8 + (mk : Int) := by omega
        go_wp2_with (go_at_call 25; refine (awake7_any _).mono ?_; rintro e w5 ⟨rfl, hb5⟩)
        go_ret
        exact ⟨rfl, hb5⟩
      · obtain rfl : ma = mb := by omega
        have f1 : ((ma : Int) + 1) * 8 + (mi : Int) < ((ma : Int) + 1) * 8 + (mk : Int) := by omega
        go_wp2_with (go_at_call 25; refine (awake7_any _).mono ?_; rintro e w5 ⟨rfl, hb5⟩)
        go_ret
        exact ⟨rfl, hb5⟩
      · obtain rfl : ma = mb := by omega
        have f1 : ¬ ((ma : Int) + 1) * 8 + (mi : Int) < ((ma : Int) + 1) * 8 + (mk : Int) := by omega
        go_wp2_with (go_at_call 25; refine (awake7_any _).mono ?_; rintro e w5 ⟨rfl, hb5⟩)
        go_ret
        exact ⟨rfl, hb5⟩
      · have f1 : ¬ ((ma : Int) + 1) * 8 + (mi : Int) < ((mb : Int) + 1) * 8 + (mk : Int) := by omega
        have f2 : ¬ ma < mb := by omega
        have f3 : ((ma : Int) + 1 == (mb : Int) + 1) = false := by rw [beq_eq_false_iff_ne]; omega
        have f4 : ¬ ma = mb := by omega
        have f5 : decide (((ma : Int) + 1) * 8 + (mi : Int) < ((mb : Int) + 1) * 8 + (mk : Int)) = false := decide_eq_false f1
        clear f1
        go_wp2_with (go_at_call 25; refine (awake7_any _).mono ?_; rintro e w5 ⟨rfl, hb5⟩)
        go_ret
        exact ⟨rfl, hb5⟩
end Go.Proofs.Ytmfobogicdeokaa
