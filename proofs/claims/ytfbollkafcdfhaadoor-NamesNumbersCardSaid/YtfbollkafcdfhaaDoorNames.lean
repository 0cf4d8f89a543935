/-
  The walk of the law NamesNumbers.
-/
import Derived.Test.YtfbollkafcdfhaaDoorRows
import Derived.WalkKit
import Derived.WalkSpells
import Derived.WalkLawsBesides
import Derived.Below
import Derived.Lib.Hide
import Derived.BigQuiet
import Derived.Deep.QuietTactic
import Derived.Deep.Draws
import Derived.Outline
namespace Go.Proofs.YtfbollkafcdfhaaDoor
open Go.RowKit

theorem ret_eq {v v' : Value} (h : v = v') : Ending.returned v = Ending.returned v' := by rw [h]
def numsL : List Int := [0, 1, 2, 3, 4, 5, 9, 10, 11, 12, 14, 15, 16, 19, 20, 21, 22, 50, 65, 1099511627776, 281474976710656, 1000, 1500, 7, 1, 2, 1, 2, 3, 4, 5, 6, 7, 8, 9, 10, 1, 2, 3]
def numsC : List Value := numsL.flatMap fun v => [.int .i64 v, .int .i64 v]

set_option maxRecDepth 100000 in
set_option maxHeartbeats 1000000 in
theorem all_any (w : World) : Calls Tryd.prog 4 #[] w fun e w' => e = .returned (.slice (some ⟨w.heap.size, 0, none⟩) 39 39) ∧ w' = w.alloc (.cells numsC.toArray 25) := by
  go_enter Tryd.func4, Tryd.ntmps4
  go_wp2
  go_ret
  exact ⟨rfl, rfl⟩
set_option maxRecDepth 100000 in
theorem small_65 (w : World) : Calls Tryd.prog 9 #[.int .i64 65] w fun e w' => e = .returned (.string ⟨#[54, 53]⟩) ∧ w = w' := by
  go_enter Tryd.func9, Tryd.ntmps9
  go_wp2
  go_ret
  exact ⟨rfl, rfl⟩
theorem small_0 (w : World) : Calls Tryd.prog 9 #[.int .i64 0] w fun e w' => e = .returned (.string ⟨#[48]⟩) ∧ w = w' := by
  go_enter Tryd.func9, Tryd.ntmps9
  go_wp2
  go_ret
  exact ⟨rfl, rfl⟩
theorem format_65 (w : World) : Calls Tryd.prog 8 #[.int .i64 65, .int .i64 10] w fun e w' => e = .returned (.string ⟨#[54, 53]⟩) ∧ w = w' := by
  go_enter Tryd.func8, Tryd.ntmps8
  go_wp2_with fail
  refine (small_65 _).mono ?_
  rintro e w1 ⟨rfl, rfl⟩
  go_wp2
  go_ret
  exact ⟨rfl, rfl⟩
theorem itoa_65 (w : World) : Calls Tryd.prog 7 #[.int .i64 65] w fun e w' => e = .returned (.string ⟨#[54, 53]⟩) ∧ w = w' := by
  go_enter Tryd.func7, Tryd.ntmps7
  go_wp2_with fail
  refine (format_65 _).mono ?_
  rintro e w1 ⟨rfl, rfl⟩
  go_wp2
  go_ret
  exact ⟨rfl, rfl⟩
theorem itoa2_65 (w : World) : Calls Tryd.prog 6 #[.int .i64 65] w fun e w' => e = .returned (.string ⟨#[54, 53]⟩) ∧ w = w' := by
  go_enter Tryd.func6, Tryd.ntmps6
  go_wp2_with fail
  refine (itoa_65 _).mono ?_
  rintro e w1 ⟨rfl, rfl⟩
  go_wp2
  go_ret
  exact ⟨rfl, rfl⟩
theorem error_65 (w : World) : Calls Tryd.prog 5 #[.int .i64 65] w fun e w' => e = .returned (.string ⟨#[101, 114, 114, 111, 114, 32, 54, 53]⟩) ∧ w = w' := by
  go_enter Tryd.func5, Tryd.ntmps5
  go_wp2_with fail
  refine (itoa2_65 _).mono ?_
  rintro e w1 ⟨rfl, rfl⟩
  go_wp2
  go_ret
  exact ⟨rfl, rfl⟩
theorem format_0 (w : World) : Calls Tryd.prog 8 #[.int .i64 0, .int .i64 10] w fun e w' => e = .returned (.string ⟨#[48]⟩) ∧ w = w' := by
  go_enter Tryd.func8, Tryd.ntmps8
  go_wp2_with fail
  refine (small_0 _).mono ?_
  rintro e w1 ⟨rfl, rfl⟩
  go_wp2
  go_ret
  exact ⟨rfl, rfl⟩
theorem itoa_0 (w : World) : Calls Tryd.prog 7 #[.int .i64 0] w fun e w' => e = .returned (.string ⟨#[48]⟩) ∧ w = w' := by
  go_enter Tryd.func7, Tryd.ntmps7
  go_wp2_with fail
  refine (format_0 _).mono ?_
  rintro e w1 ⟨rfl, rfl⟩
  go_wp2
  go_ret
  exact ⟨rfl, rfl⟩
theorem itoa2_0 (w : World) : Calls Tryd.prog 6 #[.int .i64 0] w fun e w' => e = .returned (.string ⟨#[48]⟩) ∧ w = w' := by
  go_enter Tryd.func6, Tryd.ntmps6
  go_wp2_with fail
  refine (itoa_0 _).mono ?_
  rintro e w1 ⟨rfl, rfl⟩
  go_wp2
  go_ret
  exact ⟨rfl, rfl⟩
theorem error_0 (w : World) : Calls Tryd.prog 5 #[.int .i64 0] w fun e w' => e = .returned (.string ⟨#[101, 114, 114, 111, 114, 32, 48]⟩) ∧ w = w' := by
  go_enter Tryd.func5, Tryd.ntmps5
  go_wp2_with fail
  refine (itoa2_0 _).mono ?_
  rintro e w1 ⟨rfl, rfl⟩
  go_wp2
  go_ret
  exact ⟨rfl, rfl⟩
theorem cells_at (k : Nat) (hk : k < 39) : ∃ v : Int, numsC.toArray[k * 2]? = some (.int .i64 v) ∧ numsC.toArray[k * 2 + 1]? = some (.int .i64 v) := by
  have key : ∀ j, j < 39 → ∃ v : Int, numsL[j]? = some v := fun j hj => ⟨numsL[j]'hj, List.getElem?_eq_getElem _⟩
  have gen : ∀ (l : List Int) (j : Nat) (v : Int), l[j]? = some v → (l.flatMap fun v => [Value.int .i64 v, Value.int .i64 v])[j * 2]? = some (.int .i64 v) ∧ (l.flatMap fun v => [Value.int .i64 v, Value.int .i64 v])[j * 2 + 1]? = some (.int .i64 v) := by
    intro l
    induction l with
    | nil => intro j v h; simp at h
    | cons x l ih =>
      intro j v h
      cases j with
      | zero =>
        obtain rfl : x = v := by simpa using h
        simp
      | succ j =>
        have := ih j v (by simpa using h)
        rw [List.flatMap_cons, show (j + 1) * 2 = j * 2 + 2 from by omega, show j * 2 + 2 + 1 = j * 2 + 1 + 2 from by omega]
        simpa using this
  obtain ⟨v, hv⟩ := key k hk
  have := gen numsL k v hv
  exact ⟨v, by simpa [numsC] using this.1, by simpa [numsC] using this.2⟩

set_option maxRecDepth 100000 in
set_option maxHeartbeats 1000000 in
theorem names_walk (w : World) : Calls Tryd.prog 3 #[] w fun e w' => e = .returned (.bool true) ∧ Below w.heap.size w w' := by
  go_enter Tryd.func3, Tryd.ntmps3
  go_wp2_with fail
  refine (all_any _).mono ?_
  rintro e w1 ⟨rfl, rfl⟩
  have hc : ∀ k, k < 39 → ∃ v : Int, (w.alloc (.cells numsC.toArray 25)).cell? ⟨w.heap.size, k * 2, none⟩ = some (.int .i64 v) ∧ (w.alloc (.cells numsC.toArray 25)).cell? ⟨w.heap.size, k * 2 + 1, none⟩ = some (.int .i64 v) := by
    intro k hk
    obtain ⟨v, h1, h2⟩ := cells_at k hk
    exact ⟨v, by rw [World.cell?_alloc_at _ _ _ _ rfl]; exact h1, by rw [World.cell?_alloc_at _ _ _ _ rfl]; exact h2⟩
  have hb0 : Below w.heap.size w (w.alloc (.cells numsC.toArray 25)) := (Below.refl _ _).alloc (Nat.le_refl _) _
  have hlt : w.heap.size < (w.alloc (.cells numsC.toArray 25)).heap.size := by simp
  generalize w.alloc (.cells numsC.toArray 25) = W at *
  have HC := Lib.hid hc
  clear hc
  go_wp2_with fail
  go_loopw [2] (fun i wr => ∃ k : Nat, k ≤ 39 ∧ i = .int .i64 (k : Int) ∧ Below W.heap.size W wr) (fun i _ => 39 - (intOf i).toNat)
  case atStart => exact ⟨0, Nat.zero_le _, rfl, Below.refl _ _⟩
  case round =>
    obtain ⟨k, hk, rfl, hb⟩ := hrel
    by_cases hl : k < 39
    · obtain ⟨v, h1, h2⟩ := HC.out k hl
      have g1 := (hb.cell (p := ⟨w.heap.size, k * 2, none⟩) hlt).trans h1
      have g2 := (hb.cell (p := ⟨w.heap.size, k * 2 + 1, none⟩) hlt).trans h2
      have hl' : (k : Int) < 39 := by omega
      have e1 : ((⟨w.heap.size, 0, none⟩ : Addr).add (k * 2)) = ⟨w.heap.size, k * 2, none⟩ := by
        unfold Addr.add
        split <;> simp_all
      have g1' : wr.cell? ((⟨w.heap.size, 0, none⟩ : Addr).add (k * 2)) = some (.int .i64 v) := by rw [e1]; exact g1
      clear h1 h2 e1
      go_wp2_with fail
      go_quiet (fail)
      go_wp2_with fail
      go_roundw
      case rel => exact ⟨k + 1, hl, by go_num, ⟨hb.os, hb.tape, hb.output, hb.size, hb.block⟩⟩
      case measure => simp [intOf]; omega
    · obtain rfl : k = 39 := by omega
      go_wp2_with fail
      refine (error_65 _).mono ?_
      rintro e w1 ⟨rfl, rfl⟩
      go_wp2_with fail
      refine (error_0 _).mono ?_
      rintro e w1 ⟨rfl, rfl⟩
      go_wp2
      go_ret
      exact ⟨rfl, hb0.trans (hb.mono hb0.size)⟩
end Go.Proofs.YtfbollkafcdfhaaDoor
