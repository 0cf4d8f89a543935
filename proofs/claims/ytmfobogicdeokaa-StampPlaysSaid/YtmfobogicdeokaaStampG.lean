/-
  A row of the law's operations, as an argument brings it in, opened.
-/
import Derived.Test.YtmfobogicdeokaaStampF
import Derived.Test.YtmfobogicdeokaaOpeners
import Derived.Deep.Slices
import Derived.ChangeSame
import Derived.ChangeArms
import Derived.DataReads
namespace Go.Proofs.Ytmfobogicdeokaa
open Go Go.RowKit Go.ChangeShapes

theorem ops_of {H : Type} {enc : TypeId × Value → H} {W : World} {base : Nat} {spare : Nat → Bool} {held : Bool} {fuel : Nat} {A : Option Addr} {len cap : Nat} {x : DataW H × List MemPlace}
    (h : DataW.trod enc Try.prog W base spare held fuel 53 (Value.slice A len cap).cells.toList = some x) : len ≤ cap ∧ cap ≤ maxLen ∧ Ops W.heap.size W A len := by
  rcases Go.Deep.open_slice Try.underlying53 h with ⟨hcs, _⟩ | ⟨a, l, c, m, n, D, Pl, hcs, _, hl, hm, hmm, _, hx⟩
  · simp [Value.cells] at hcs
    obtain ⟨rfl, rfl, rfl⟩ := hcs
    exact ⟨Nat.le_refl _, Nat.zero_le _, fun i hi => absurd hi (Nat.not_lt_zero _)⟩
  · simp [Value.cells] at hcs
    obtain ⟨rfl, rfl, rfl⟩ := hcs
    refine ⟨hl, hm, fun i hi => ?_⟩
    have hi' : i < m := by subst hmm; split <;> omega
    obtain ⟨cs, h1, h2⟩ := hx i hi'
    rw [show Try.prog.cellsOf 55 = 2 from by kernel_rfl] at h1
    obtain ⟨y0, y1, n', _, hlen, h3, h4⟩ := trod_struct2 Try.underlying55 h2
    obtain ⟨_, hcl, hcell⟩ := World.cells?_some h1
    match cs, hcl with
    | [c0, c1], _ =>
      have g0 := hcell 0 (by omega)
      have g1 := hcell 1 (by omega)
      obtain ⟨k, e0, _, hk⟩ := DataW.trod_int Try.underlying3 h3
      obtain ⟨v, e1, _, hv⟩ := DataW.trod_int Try.underlying38 h4
      rw [show Try.prog.cellsOf 3 = 1 from by kernel_rfl] at e0
      rw [show Try.prog.cellsOf 38 = 1 from by kernel_rfl] at e1
      simp at e0 e1
      subst e0 e1
      obtain ⟨v', rfl⟩ := u64_of hv
      have hb : a.block < W.heap.size := by
        have := World.block_lt_of_cell? W _ g0
        rwa [add_block, add_block] at this
      refine ⟨a, k, v'.toNat, rfl, hb, (i64_of hk).1, (i64_of hk).2, by have := v'.isLt; omega, g0, g1⟩
end Go.Proofs.Ytmfobogicdeokaa
