/-
  The walk of the law StampRestarts: it answers true, and changes nothing that was there.
-/
import Derived.Test.YtmfobogicdeokaaStampB
import Derived.Deep.LoopGhost
import Derived.Deep.DeepCutAuto
import Derived.Deep.CutBlock
namespace Go.Proofs.Ytmfobogicdeokaa
open Go.RowKit

set_option maxHeartbeats 1000000 in
theorem stampRestarts_walk (lease a b : Int) (w : World) :
    Calls Try.prog 9 #[.int .i64 lease, .int .i64 a, .int .i64 b] w fun e w' => e = .returned (.bool true) ∧ Below w.heap.size w w' := by
  obtain ⟨n0, hn0, hn1⟩ := and_mask lease 10 (by omega)
  obtain ⟨am, ham, ham1⟩ := and_mask a 7 (by omega)
  obtain ⟨bm, hbm, hbm1⟩ := and_mask b 7 (by omega)
  rw [show ((2 ^ 10 - 1 : Nat) : Int) = 1023 from rfl] at hn0
  rw [show ((2 ^ 7 - 1 : Nat) : Int) = 127 from rfl] at ham hbm
  rw [show (2 ^ 10 : Nat) = 1024 from rfl] at hn1
  rw [show (2 ^ 7 : Nat) = 128 from rfl] at ham1 hbm1
  obtain ⟨n, hn, hnn⟩ : ∃ n : Nat, (n0 : Int) + 1 = (n : Int) ∧ n = n0 + 1 := ⟨n0 + 1, by omega, rfl⟩
  have hn2 : 1 ≤ n := by omega
  have hn3 : n ≤ 1024 := by omega
  clear hnn
  go_enter Try.func9, Try.ntmps9
  go_wp2_with fail
  refine (new_ok 3 0 _ (by omega) (by omega)).mono ?_
  rintro e w1 ⟨g, rfl, hg, hk1, hb1⟩
  go_wp2_with fail
  refine (renew_yes g 3 0 0 n _ hk1 (by omega) (by omega)).mono ?_
  rintro e w2 ⟨rfl, hk2, hg2⟩
  have hb2 := below_clk hb1 hg2 hb1.size hg
  clear hk1 hb1 hg2
  go_upto_block 0 with (fail)
  go_cut [10] (fun s wx => ∃ L N : Nat, s = .int .u64 (L : Int) ∧ L ≤ n * 8 + 3 ∧ Clk wx g 3 N n ∧ Below w.heap.size w wx)
  case first =>
    go_wp2_with fail
    go_loopw [10, 11] (fun t i wr => ∃ s L : Nat, s ≤ am ∧ s ≤ n ∧ i = .int .i64 (s : Int) ∧ t = .int .u64 (L : Int) ∧ L ≤ s * 8 + 3 ∧ Clk wr g 3 s n ∧ Below w.heap.size w wr) (fun _ i _ => am - (intOf i).toNat)
    case atStart => exact ⟨0, 0, Nat.zero_le _, Nat.zero_le _, rfl, rfl, by omega, hk2, hb2⟩
    case round =>
      obtain ⟨s, L, hs1, hs2, rfl, rfl, hL, hk, hbel⟩ := hrel
      by_cases hlt : s < am
      · by_cases hl2 : s < n
        · go_wp2_with fail
          refine (next_ok g 3 s n _ hk (by omega) hl2 (by omega)).mono ?_
          rintro e w3 ⟨rfl, hk3, hg3⟩
          have hb3 := below_clk hbel hg3 hbel.size hg
          go_wp2
          go_roundw
          case rel => exact ⟨s + 1, (s + 1) * 8 + 3, by omega, by omega, by go_num, by go_num, by omega, hk3, hb3⟩
          case measure => simp [intOf]; omega
        · go_wp2_with fail
          refine (next_lease g 3 s n _ hk (by omega) (by omega)).mono ?_
          rintro e w3 ⟨rfl, rfl⟩
          go_wp2
          go_meet
          case rel => exact ⟨L, s, rfl, by omega, hk, hbel⟩
      · go_wp2
        go_meet
        case rel => exact ⟨L, s, rfl, by omega, hk, hbel⟩
  case rest =>
    obtain ⟨L, N, rfl, hL, hk, hbel⟩ := hcut
    clear hk2 hb2 ham
    go_wp2_with fail
    refine (lease_any g 3 N n _ hk).mono ?_
    rintro e w3 ⟨rfl, rfl⟩
    go_wp2_with fail
    refine (new_ok 3 n _ (by omega) (by omega)).mono ?_
    rintro e w3 ⟨d, rfl, hd, hk3, hb3⟩
    have hb3' : Below w.heap.size w w3 := hbel.trans (hb3.mono hbel.size)
    have hdw : w.heap.size ≤ d := Nat.le_trans hbel.size hd
    clear hk hbel hb3
    go_wp2_with fail
    refine (renew_yes d 3 n n (n + 200) _ hk3 (by omega) (by omega)).mono ?_
    rintro e w4 ⟨rfl, hk4, hg4⟩
    have hb4 := below_clk hb3' hg4 hb3'.size hdw
    clear hk3 hg4 hb3'
    go_wp2_with fail
    go_loopw [10, 16] (fun t i wr => ∃ s L : Nat, s ≤ bm ∧ i = .int .i64 (s : Int) ∧ t = .int .u64 (L : Int) ∧ L ≤ (n + s) * 8 + 3 ∧ Clk wr d 3 (n + s) (n + 200) ∧ Below w.heap.size w wr) (fun _ i _ => bm - (intOf i).toNat)
    case atStart => exact ⟨0, L, Nat.zero_le _, rfl, rfl, by omega, hk4, hb4⟩
    case round =>
      obtain ⟨s, L', hs1, rfl, rfl, hL', hk, hbel⟩ := hrel
      by_cases hlt : s < bm
      · go_wp2_with fail
        refine (next_ok d 3 (n + s) (n + 200) _ hk (by omega) (by omega) (by omega)).mono ?_
        rintro e w3 ⟨rfl, hk3, hg3⟩
        have hb3 := below_clk hbel hg3 hbel.size hdw
        go_wp2
        go_roundw
        case rel => exact ⟨s + 1, (n + s + 1) * 8 + 3, by omega, by go_num, by go_num, by omega, hk3, hb3⟩
        case measure => simp [intOf]; omega
      · go_wp2_with fail
        refine (awake7_any _).mono ?_
        rintro e w5 ⟨rfl, hb5⟩
        go_wp2
        go_ret
        exact ⟨rfl, hbel.trans (hb5.mono hbel.size)⟩
end Go.Proofs.Ytmfobogicdeokaa
