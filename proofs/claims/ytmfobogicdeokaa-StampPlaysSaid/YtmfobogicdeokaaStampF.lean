/-
  The walk of the law StampPlays: it answers true, and changes nothing that was there.
-/
import Derived.Test.YtmfobogicdeokaaStampB
import Derived.Deep.LoopGhost
import Derived.Deep.DeepCutAuto
import Derived.Deep.CutBlock
namespace Go.Proofs.Ytmfobogicdeokaa
open Go.RowKit

/-- A row of calls: for each its kind and its number. -/
def Ops (B : Nat) (w : World) (A : Option Addr) (n : Nat) : Prop :=
  ∀ i, i < n → ∃ a, ∃ (k : Int) (v : Nat), A = some a ∧ a.block < B ∧ -9223372036854775808 ≤ k ∧ k ≤ 9223372036854775807 ∧ v < 18446744073709551616 ∧ w.cell? (a.add (i * 2)) = some (.int .i64 k) ∧ w.cell? ⟨(a.add (i * 2)).block, (a.add (i * 2)).off + 1, none⟩ = some (.int .u64 (v : Int))
theorem Ops.below {B n : Nat} {w w' : World} {A : Option Addr} (h : Ops B w A n) (hb : Below B w w') : Ops B w' A n := by
  intro i hi
  obtain ⟨a, k, v, e, h1, h2, h3, h4, h5, h6⟩ := h i hi
  exact ⟨a, k, v, e, h1, h2, h3, h4, (hb.cell (by rw [add_block]; exact h1)).trans h5, (hb.cell (p := ⟨(a.add (i * 2)).block, (a.add (i * 2)).off + 1, none⟩) (show (a.add (i * 2)).block < B by rw [add_block]; exact h1)).trans h6⟩

set_option maxRecDepth 100000 in
set_option maxHeartbeats 2000000 in
theorem stampPlays_walk (node : Int) (frm : Nat) (A : Option Addr) (n c : Nat) (w : World) (_hn : n ≤ 9223372036854775807) (hr : Ops w.heap.size w A n) :
    Calls Try.prog 11 #[.int .i64 node, .int .u64 (frm : Int), .slice A n c] w fun e w' => e = .returned (.bool true) ∧ Below w.heap.size w w' := by
  rcases (by omega : (node < 0 ∨ 6 < node) ∨ (0 ≤ node ∧ node ≤ 6)) with h1 | ⟨h1, h2⟩
  · rcases (by omega : node < 0 ∨ ¬ node < 0 ∧ 6 < node) with h3 | ⟨h3, h4⟩
    all_goals
      go_enter Try.func11, Try.ntmps11
      go_wp2_with fail
      refine (new_arg _ _ _ h1).mono ?_
      rintro e w1 ⟨rfl, rfl⟩
      go_wp2_with (go_at_call 25; refine (awake7_any _).mono ?_; rintro e w5 ⟨rfl, hb5⟩)
      go_ret
      exact ⟨rfl, hb5⟩
  by_cases h3 : 1099511627776 < frm
  · have h3' : (1099511627776 : Int) < (frm : Int) := by omega
    go_enter Try.func11, Try.ntmps11
    go_wp2_with fail
    refine (new_over _ _ _ h1 h2 h3').mono ?_
    rintro e w1 ⟨rfl, rfl⟩
    go_wp2_with (go_at_call 25; refine (awake7_any _).mono ?_; rintro e w5 ⟨rfl, hb5⟩)
    go_ret
    exact ⟨rfl, hb5⟩
  · obtain ⟨nd, rfl⟩ := Int.eq_ofNat_of_zero_le h1
    have hnd : nd ≤ 6 := by omega
    have hfr : frm ≤ 1099511627776 := by omega
    have hfr' : ¬ (1099511627776 : Int) < (frm : Int) := by omega
    go_enter Try.func11, Try.ntmps11
    go_wp2_with fail
    refine (new_ok nd frm _ hnd hfr).mono ?_
    rintro e w1 ⟨g, rfl, hg, hk1, hb1⟩
    go_wp2_with fail
    go_loopw [10, 11, 12] (fun x y i wr => ∃ N L t : Nat, x = .int .u64 (N : Int) ∧ y = .int .u64 (L : Int) ∧ i = .int .i64 (t : Int) ∧ t ≤ 80 ∧ N ≤ 1099511627776 ∧ L ≤ 1099511627776 ∧ Clk wr g nd N L ∧ Below w.heap.size w wr) (fun _ _ i _ => 80 - (intOf i).toNat)
    case atStart => exact ⟨frm, frm, 0, rfl, rfl, rfl, by omega, hfr, hfr, hk1, hb1⟩
    case round =>
      obtain ⟨N, L, t, rfl, rfl, rfl, ht, hN, hL, hk, hbel⟩ := hrel
      clear hk1 hb1
      by_cases hlt : t < n ∧ t < 80
      · obtain ⟨hlt1, hlt2⟩ := hlt
        have hlt3 : (t : Int) < 80 := by omega
        obtain ⟨ad, kd, v, rfl, hadw, -, -, hv, hc1, hc2⟩ := (hr.below hbel) t hlt1
        have HV := Lib.hid hv
        clear hv
        go_upto_block 3 with (fail)
        go_cut [10, 11] (fun x y wx => ∃ N' L' : Nat, x = .int .u64 (N' : Int) ∧ y = .int .u64 (L' : Int) ∧ N' ≤ 1099511627776 ∧ L' ≤ 1099511627776 ∧ Clk wx g nd N' L' ∧ Below w.heap.size w wx)
        case first =>
          by_cases k0 : kd = 0
          · subst k0
            rcases (by omega : 1099511627776 ≤ N ∨ (N < 1099511627776 ∧ L ≤ N) ∨ (N < 1099511627776 ∧ N < L)) with c1 | ⟨c1, c2⟩ | ⟨c1, c2⟩
            · have c1' : (1099511627776 : Int) ≤ (N : Int) := by omega
              go_wp2_with fail
              refine (next_end g nd _ L _ hk c1).mono ?_
              rintro e w3 ⟨rfl, rfl⟩
              go_wp2_with fail
              go_meet
              case rel => exact ⟨_, L, rfl, rfl, hN, hL, hk, hbel⟩
            · have c1' : ¬ (1099511627776 : Int) ≤ (N : Int) := by omega
              go_wp2_with fail
              have c2' : (L : Int) ≤ (N : Int) := by omega
              have d1 : decide ((1099511627776 : Int) ≤ (N : Int)) = false := decide_eq_false (by omega)
              refine (next_lease g nd N L _ hk c1 c2).mono ?_
              rintro e w3 ⟨rfl, rfl⟩
              clear c1 c2 c1'
              go_wp2_with fail
              go_meet
              case rel => exact ⟨N, L, rfl, rfl, hN, hL, hk, hbel⟩
            · have c1' : ¬ (1099511627776 : Int) ≤ (N : Int) := by omega
              have c2' : ¬ (L : Int) ≤ (N : Int) := by omega
              have d1 : decide ((1099511627776 : Int) ≤ (N : Int)) = false := decide_eq_false (by omega)
              have d2 : decide ((L : Int) ≤ (N : Int)) = false := decide_eq_false (by omega)
              have c3' : N + 1 ≤ 1099511627776 := by omega
              go_wp2_with fail
              refine (next_ok g nd N L _ hk c1 c2 hnd).mono ?_
              rintro e w3 ⟨rfl, hk3, hg3⟩
              have hb3 := below_clk hbel hg3 hbel.size hg
              clear c1 c2 c1'
              go_wp2_with fail
              go_meet
              case rel => exact ⟨N + 1, L, by go_num, rfl, c3', hL, hk3, hb3⟩
          · have k0' : (kd == 0) = false := beq_eq_false_iff_ne.2 k0
            by_cases k1 : kd = 1
            · subst k1
              go_wp2_with fail
              refine (see_any g nd N L v _ hk HV.out).mono ?_
              rintro e w3 ⟨rfl, hk3, hg3⟩
              have hb3 := below_clk hbel hg3 hbel.size hg
              have hc1' : w3.cell? (ad.add (t * 2)) = some (.int .i64 1) := by
                rw [hg3.cell hc1]
                rw [add_block]
                intro e
                injection e
                omega
              have hc2' : w3.cell? ⟨(ad.add (t * 2)).block, (ad.add (t * 2)).off + 1, none⟩ = some (.int .u64 (v : Int)) := by
                rw [hg3.cell hc2]
                show ¬ some (ad.add (t * 2)).block = some g
                rw [add_block]
                intro e
                injection e
                omega
              clear hc1 hc2
              go_wp2_with fail
              go_meet
              case rel => exact ⟨max N (min (v / 8) 1099511627776), L, by congr 1; omega, rfl, by omega, hL, hk3, hb3⟩
            · have k1' : (kd == 1) = false := beq_eq_false_iff_ne.2 k1
              rcases (by omega : (L < v ∧ v ≤ 1099511627776) ∨ (v ≤ L) ∨ (L < v ∧ 1099511627776 < v)) with ⟨c1, c2⟩ | c1 | ⟨c1, c2⟩
              · have c2' : (v : Int) ≤ 1099511627776 := by omega
                go_wp2_with fail
                refine (renew_yes g nd N L v _ hk c1 c2).mono ?_
                rintro e w3 ⟨rfl, hk3, hg3⟩
                have hb3 := below_clk hbel hg3 hbel.size hg
                have hc2' : w3.cell? ⟨(ad.add (t * 2)).block, (ad.add (t * 2)).off + 1, none⟩ = some (.int .u64 (v : Int)) := by
                  rw [hg3.cell hc2]
                  show ¬ some (ad.add (t * 2)).block = some g
                  rw [add_block]
                  intro e
                  injection e
                  omega
                clear hc1 hc2
                go_wp2_with fail
                go_meet
                case rel => exact ⟨N, v, rfl, rfl, hN, c2, hk3, hb3⟩
              · have c1' : ¬ L < v := by omega
                go_wp2_with fail
                refine (renew_no g nd N L v _ hk (.inl c1)).mono ?_
                rintro e w3 ⟨rfl, rfl⟩
                go_wp2_with fail
                go_meet
                case rel => exact ⟨N, L, rfl, rfl, hN, hL, hk, hbel⟩
              · have c2' : ¬ (v : Int) ≤ 1099511627776 := by omega
                go_wp2_with fail
                refine (renew_no g nd N L v _ hk (.inr c2)).mono ?_
                rintro e w3 ⟨rfl, rfl⟩
                go_wp2_with fail
                go_meet
                case rel => exact ⟨N, L, rfl, rfl, hN, hL, hk, hbel⟩
        case rest =>
          clear hk hbel hc1 hc2
          obtain ⟨N', L', rfl, rfl, hN', hL', hk, hbel⟩ := hcut
          go_wp2_with fail
          refine (now_any g nd N' L' _ hk).mono ?_
          rintro e w3 ⟨rfl, rfl⟩
          go_wp2_with fail
          refine (lease_any g nd N' L' _ hk).mono ?_
          rintro e w3 ⟨rfl, rfl⟩
          go_wp2
          go_roundw
          case rel => exact ⟨N', L', t + 1, rfl, rfl, by go_num, by omega, hN', hL', hk, hbel⟩
          case measure => simp [intOf]; omega
      · by_cases h1 : t < n
        · have h2 : ¬ (t : Int) < 80 := by omega
          go_wp2_with fail
          refine (awake7_any _).mono ?_
          rintro e w5 ⟨rfl, hb5⟩
          go_wp2
          go_ret
          exact ⟨rfl, hbel.trans (hb5.mono hbel.size)⟩
        · go_wp2_with fail
          refine (awake7_any _).mono ?_
          rintro e w5 ⟨rfl, hb5⟩
          go_wp2
          go_ret
          exact ⟨rfl, hbel.trans (hb5.mono hbel.size)⟩
end Go.Proofs.Ytmfobogicdeokaa
