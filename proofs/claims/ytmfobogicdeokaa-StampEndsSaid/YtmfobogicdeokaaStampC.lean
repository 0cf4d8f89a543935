/-
  The walk of the law StampEnds: it answers true, and changes nothing that was there.
-/
import Derived.Test.YtmfobogicdeokaaStampB
import Derived.Deep.LoopGhost
namespace Go.Proofs.Ytmfobogicdeokaa
open Go.RowKit

theorem or_high (v : BitVec 64) : ∃ u : Nat, bits .or .u64 (v.toNat : Int) 1125899906842624 = (u : Int) ∧ 1125899906842624 ≤ u ∧ u < 18446744073709551616 := by
  have h : bits .or .u64 (v.toNat : Int) 1125899906842624 = ((v ||| 1125899906842624#64).toNat : Int) := bits64_or v 1125899906842624#64
  refine ⟨(v ||| 1125899906842624#64).toNat, h, ?_, (v ||| 1125899906842624#64).isLt⟩
  rw [BitVec.toNat_or]
  exact Nat.right_le_or

set_option maxHeartbeats 1000000 in
theorem stampEnds_walk (node below : Int) (v : BitVec 64) (w : World) :
    Calls Try.prog 13 #[.int .i64 node, .int .i64 below, .int .u64 (v.toNat : Int)] w fun e w' => e = .returned (.bool true) ∧ Below w.heap.size w w' := by
  obtain ⟨nd, hnd, hnd1⟩ := and_mask node 2 (by omega)
  obtain ⟨bl, hbl, hbl1⟩ := and_mask below 4 (by omega)
  obtain ⟨u, hu, hu1, hu2⟩ := or_high v
  have HU := Lib.hid (And.intro hu1 hu2)
  clear hu1 hu2
  rw [show ((2 ^ 2 - 1 : Nat) : Int) = 3 from rfl] at hnd
  rw [show ((2 ^ 4 - 1 : Nat) : Int) = 15 from rfl] at hbl
  rw [show (2 ^ 2 : Nat) = 4 from rfl] at hnd1
  rw [show (2 ^ 4 : Nat) = 16 from rfl] at hbl1
  obtain ⟨F, hF, hF1⟩ : ∃ F : Nat, (1099511627776 : Int) - (bl : Int) = (F : Int) ∧ F + bl = 1099511627776 := ⟨1099511627776 - bl, by omega, by omega⟩
  have HF1 := Lib.hid hF1
  have hF2 : F ≤ 1099511627776 := by omega
  clear hF1
  go_enter Try.func13, Try.ntmps13
  go_wp2_with fail
  refine (new_ok nd F _ (by omega) hF2).mono ?_
  rintro e w1 ⟨g, rfl, hg, hk1, hb1⟩
  rcases Nat.eq_zero_or_pos bl with h0 | h0
  · have hF0 : F = 1099511627776 := by have := HF1.out; omega
    have hk2 : Clk w1 g nd (F + 0) 1099511627776 := by have h := hk1; rw [hF0] at h; rw [hF0]; exact h
    have hb2 := hb1
    have h0' : ¬ 0 < bl := by omega
    have h0'' : ¬ (0 : Int) < (bl : Int) := by omega
    have H0 := Lib.hid h0
    clear h0 hF0
    go_wp2_with fail
    refine (renew_no g nd F F 1099511627776 _ hk1 (by have := HF1.out; have := H0.out; omega)).mono ?_
    rintro e w2 ⟨rfl, rfl⟩
    go_wp2_with fail
    go_loopw [10] (fun i wr => ∃ s : Nat, s ≤ bl ∧ i = .int .i64 ((s : Int) + 1) ∧ Clk wr g nd (F + s) 1099511627776 ∧ Below w.heap.size w wr) (fun i _ => bl + 1 - (intOf i).toNat)
    case atStart => exact ⟨0, Nat.zero_le _, rfl, hk2, hb2⟩
    case round =>
      obtain ⟨s, hs, rfl, hk, hbel⟩ := hrel
      by_cases hlt : s < bl
      · exact absurd hlt (by have := H0.out; omega)
      · obtain rfl : s = bl := by omega
        have hk' : Clk wr g nd 1099511627776 1099511627776 := by have h := hk; rwa [HF1.out] at h
        clear hk
        go_wp2_with fail
        refine (next_end g nd _ _ _ hk' (Nat.le_refl _)).mono ?_
        rintro e w3 ⟨rfl, rfl⟩
        go_wp2_with fail
        refine (see_any g nd _ _ u _ hk' HU.out.2).mono ?_
        rintro e w3 ⟨rfl, hk3, hg3⟩
        have hb3 := below_clk hbel hg3 hbel.size hg
        have e1 : max 1099511627776 (min (u / 8) 1099511627776) = 1099511627776 := by omega
        rw [e1] at hk3
        clear e1
        go_wp2_with fail
        refine (next_end g nd _ _ _ hk3 (Nat.le_refl _)).mono ?_
        rintro e w4 ⟨rfl, rfl⟩
        go_wp2_with fail
        refine (now_any g nd _ _ _ hk3).mono ?_
        rintro e w4 ⟨rfl, rfl⟩
        go_wp2_with fail
        refine (renew_no g nd _ _ 1099511627777 _ hk3 (by omega)).mono ?_
        rintro e w4 ⟨rfl, rfl⟩
        go_wp2_with fail
        refine (awake7_any _).mono ?_
        rintro e w5 ⟨rfl, hb5⟩
        go_wp2
        go_ret
        exact ⟨rfl, hb3.trans (hb5.mono hb3.size)⟩
  · have h0'' : (0 : Int) < (bl : Int) := by omega
    go_wp2_with fail
    refine (renew_yes g nd F F 1099511627776 _ hk1 (by have := HF1.out; omega) (Nat.le_refl _)).mono ?_
    rintro e w2 ⟨rfl, hk2, hg2⟩
    have hb2 := below_clk hb1 hg2 hb1.size hg
    go_wp2_with fail
    go_loopw [10] (fun i wr => ∃ s : Nat, s ≤ bl ∧ i = .int .i64 ((s : Int) + 1) ∧ Clk wr g nd (F + s) 1099511627776 ∧ Below w.heap.size w wr) (fun i _ => bl + 1 - (intOf i).toNat)
    case atStart => exact ⟨0, Nat.zero_le _, rfl, hk2, hb2⟩
    case round =>
      obtain ⟨s, hs, rfl, hk, hbel⟩ := hrel
      by_cases hlt : s < bl
      · go_wp2_with fail
        refine (next_ok g nd (F + s) 1099511627776 _ hk (by have := HF1.out; omega) (by have := HF1.out; omega) (by omega)).mono ?_
        rintro e w3 ⟨rfl, hk3, hg3⟩
        have hb3 := below_clk hbel hg3 hbel.size hg
        go_wp2
        go_roundw
        case rel => exact ⟨s + 1, by omega, by go_num, hk3, hb3⟩
        case measure => simp [intOf]; omega
      · obtain rfl : s = bl := by omega
        have hk' : Clk wr g nd 1099511627776 1099511627776 := by have h := hk; rwa [HF1.out] at h
        clear hk
        go_wp2_with fail
        refine (next_end g nd _ _ _ hk' (Nat.le_refl _)).mono ?_
        rintro e w3 ⟨rfl, rfl⟩
        go_wp2_with fail
        refine (see_any g nd _ _ u _ hk' HU.out.2).mono ?_
        rintro e w3 ⟨rfl, hk3, hg3⟩
        have hb3 := below_clk hbel hg3 hbel.size hg
        have e1 : max 1099511627776 (min (u / 8) 1099511627776) = 1099511627776 := by omega
        rw [e1] at hk3
        clear e1
        go_wp2_with fail
        refine (next_end g nd _ _ _ hk3 (Nat.le_refl _)).mono ?_
        rintro e w4 ⟨rfl, rfl⟩
        go_wp2_with fail
        refine (now_any g nd _ _ _ hk3).mono ?_
        rintro e w4 ⟨rfl, rfl⟩
        go_wp2_with fail
        refine (renew_no g nd _ _ 1099511627777 _ hk3 (by omega)).mono ?_
        rintro e w4 ⟨rfl, rfl⟩
        go_wp2_with fail
        refine (awake7_any _).mono ?_
        rintro e w5 ⟨rfl, hb5⟩
        go_wp2
        go_ret
        exact ⟨rfl, hb3.trans (hb5.mono hb3.size)⟩
end Go.Proofs.Ytmfobogicdeokaa
