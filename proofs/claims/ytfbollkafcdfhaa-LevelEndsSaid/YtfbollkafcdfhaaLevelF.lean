/-
  The walk of the laws' own small call (awake), and of Few.
-/
import Derived.Test.YtfbollkafcdfhaaLevelE
namespace Go.Proofs.Ytfbollkafcdfhaa
open Go.RowKit

def nul (k : Int) : Hv := ⟨⟨k, 0, [], [], 0⟩, none, 0, 0, none, 0, 0⟩
theorem nul_ok (k : Int) (B : Nat) (w : World) : (nul k).ok B w := ⟨Row.nil_, Row.nil_⟩
def four : List Hv := [nul 1, nul 2, nul 3, nul 4]
def cells4 : Array Value := ⟨four.flatMap Hv.cs⟩
theorem four_at (w : World) : Helds (w.heap.size + 1) (w.alloc (.cells cells4 27)) (some ⟨w.heap.size, 0, none⟩) 4 four :=
  ⟨rfl, Row.new w cells4 _ rfl, fun h hh => by
    simp only [four, List.mem_cons, List.not_mem_nil, or_false] at hh
    rcases hh with rfl | rfl | rfl | rfl <;> exact nul_ok _ _ _⟩
theorem Helds.pre {B n : Nat} {w : World} {A : Option Addr} {hs : List Hv} (h : Helds B w A n hs) {m : Nat} (hm : m ≤ n) : Helds B w A m (hs.take m) :=
  ⟨by rw [List.length_take, h.len]; omega, by rw [flat_take]; exact h.row.pre hm, fun x hx => h.ok x (List.mem_of_mem_take hx)⟩
theorem four_overs : overs four 3 = [0] := by decide
theorem four_picks : picks four 0 4 = [1, 2, 3, 4] := by decide
theorem four_len : (picks four 0 four.length).length = 4 := by decide
theorem four_done : (overs four 3).isEmpty = false := by decide
theorem three_done : (overs (four.take 3) 3).isEmpty = true := by decide

set_option maxHeartbeats 1000000 in
theorem awake_any (w : World) : Calls Try.prog 10 #[] w fun e w' => e = .returned (.bool true) ∧ Below w.heap.size w w' := by
  go_enter Try.func10, Try.ntmps10
  go_wp2_with fail
  have h0 := four_at w
  have g0 : Below w.heap.size w (w.alloc (.cells cells4 27)) := (Below.refl _ _).alloc (Nat.le_refl _) _
  refine (pick_any four _ 4 4 (by omega) _ (h0.up (by simp))).mono ?_
  rintro e w1 ⟨hp, hb1⟩
  unfold PickOf at hp
  rw [four_overs] at hp
  obtain ⟨v, rfl, A1, c1, rfl, -⟩ := hp
  have hz1 := later_ g0 hb1
  have hz1b : w.heap.size + 1 ≤ w1.heap.size := by have := hb1.size; simpa using this
  have hh1 := h0.below (hb1.mono (by simp))
  clear h0 g0 hb1
  rw [four_len]
  go_wp2_with fail
  refine (done_any four _ 4 4 (by omega) _ (hh1.up hz1b).hrow).mono ?_
  rintro e w2 ⟨rfl, hb2⟩
  rw [four_done]
  have hz2 := later_ hz1 hb2
  have hh2 := hh1.below (hb2.mono hz1b)
  go_wp2_with fail
  refine (done_any (four.take 3) _ 3 4 (by omega) _ ((hh2.pre (by omega)).up (Nat.le_trans hz1b hb2.size)).hrow).mono ?_
  rintro e w3 ⟨rfl, hb3⟩
  rw [three_done]
  go_wp2_with fail
  go_ret
  exact ⟨rfl, later_ hz2 hb3⟩
end Go.Proofs.Ytfbollkafcdfhaa
