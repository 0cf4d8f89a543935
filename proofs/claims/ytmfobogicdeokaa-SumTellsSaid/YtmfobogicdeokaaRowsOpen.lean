/-
  A row of rows of bytes, as an argument brings it in, opened.
-/
import Derived.Test.YtmfobogicdeokaaSumA
import Derived.Test.YtmfobogicdeokaaOpeners
import Derived.Deep.Slices
import Derived.ChangeSame
import Derived.ChangeSlices
import Derived.DataReads
namespace Go.Proofs.Ytmfobogicdeokaa
open Go Go.RowKit Go.ChangeShapes

theorem rows2_of {H : Type} {enc : TypeId × Value → H} {W : World} {base : Nat} {spare : Nat → Bool} {held : Bool} (hsp : ∀ b, spare b = true) {fuel : Nat} {A : Option Addr} {len cap : Nat} {x : DataW H × List MemPlace}
    (h : DataW.trod enc Try.prog W base spare held fuel 62 (Value.slice A len cap).cells.toList = some x) : len ≤ cap ∧ cap ≤ maxLen ∧ ∃ ls, Rows2 W.heap.size W A len ls := by
  rcases Go.Deep.open_slice1 Try.underlying62 (by kernel_rfl) h with ⟨hcs, _⟩ | ⟨a, l, c, m, n, V, D, Pl, hcs, _, hl, hm, hmm, _, hx⟩
  · simp [Value.cells] at hcs
    obtain ⟨rfl, rfl, rfl⟩ := hcs
    exact ⟨Nat.le_refl _, Nat.zero_le _, [], [], Row.nil_, rfl, fun i hi => by simp at hi⟩
  · simp [Value.cells] at hcs
    obtain ⟨rfl, rfl, rfl⟩ := hcs
    refine ⟨hl, hm, ?_⟩
    have key : ∀ i, i < len → ∃ q : List UInt8, ∃ A k c, V i = .slice A k c ∧ k ≤ c ∧ c ≤ maxLen ∧ Row W.heap.size W A k 1 (bts q) := fun i hi => by
      have hi' : i < m := by subst hmm; split <;> omega
      obtain ⟨_, h2⟩ := hx i hi'
      rcases open_ints Try.underlying22 Try.underlying5 (by kernel_rfl) h2 with ⟨hv, _⟩ | ⟨x, l, c, zs, hv, _, hl, hm, hz, _, hcell, hwz⟩
      · simp at hv
        exact ⟨[], none, 0, 0, hv, Nat.le_refl _, Nat.zero_le _, Row.nil_⟩
      · simp at hv
        rw [hsp] at hz
        obtain ⟨q, h1, h2, h3⟩ := row_of (w := W) (a := some x) (len := l) (cap := c) (zs := zs) (.inr ⟨x, rfl, hl, hm, by simpa using hz, hcell, hwz⟩)
        exact ⟨q, some x, l, c, hv, h1, h2, h3⟩
    obtain ⟨f, hf⟩ := Go.Deep.choose_lt key
    refine ⟨(List.range len).map f, (List.range len).map V, ⟨by simp, fun j hj => ?_⟩, by simp, fun i hi => ?_⟩
    · have hj' : j < len := by simpa using hj
      have hjm : j < m := by subst hmm; split <;> omega
      obtain ⟨h1, _⟩ := hx j hjm
      refine ⟨a, rfl, ?_, ?_⟩
      · have := World.block_lt_of_cell? W _ h1
        rwa [add_block] at this
      · simpa using h1
    · have hi' : i < len := by simpa using hi
      obtain ⟨A, k, c, h1, h2, h3, h4⟩ := hf i hi'
      exact ⟨A, k, c, by simp [hi', h1], h2, h3, by simpa using h4⟩
end Go.Proofs.Ytmfobogicdeokaa
