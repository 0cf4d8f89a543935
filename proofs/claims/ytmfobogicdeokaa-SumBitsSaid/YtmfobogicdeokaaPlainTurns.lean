/-
  The plain law of the sums, behind: one, two or three turned bits, and a burst of 32, leave no sealed text. No program in sight.
-/
import Derived.Test.YtmfobogicdeokaaPlainCrc
namespace Go.Proofs.Ytmfobogicdeokaa
namespace Crc

/-- The step, on natural numbers, for the kernel's run. -/
def stepN (x : Nat) : Nat := Nat.xor (x / 2) (if x % 2 = 1 then 2197175160 else 0)
theorem stepN_eq (x : BitVec 32) : stepN x.toNat = (step x).toNat := by
  rw [step_eq, BitVec.toNat_xor, BitVec.toNat_ushiftRight, Nat.shiftRight_eq_div_pow]
  unfold stepN
  have h0 : x.getLsbD 0 = decide (x.toNat % 2 = 1) := by simp [BitVec.getLsbD]
  rw [h0]
  by_cases h : x.toNat % 2 = 1
  · simp only [h, decide_true, if_true]
    rfl
  · simp only [h, decide_false, if_false, Bool.false_eq_true]
    rfl
/-- The register behind n steps, 0 if it has been 1 (or 0) at one of them. -/
def run : Nat → Nat → Nat
  | 0, x => x
  | n + 1, x => match stepN x with
    | 0 => 0
    | 1 => 0
    | y + 2 => run n (y + 2)
def runs : Nat → Nat → Bool
  | 0, _ => true
  | k + 1, x => match run 256 x with
    | 0 => false
    | y + 1 => runs k (y + 1)
theorem runs_ok : runs 128 1 = true := by decide +kernel
theorem run_spec (n : Nat) (x : BitVec 32) (y : Nat) (h : run n x.toNat = y + 1) : (steps n x).toNat = y + 1 ∧ ∀ d, 1 ≤ d → d ≤ n → steps d x ≠ 1#32 := by
  induction n generalizing x with
  | zero => exact ⟨h, fun d h1 h2 => by omega⟩
  | succ n ih =>
    have e := stepN_eq x
    unfold run at h
    split at h
    · simp at h
    · simp at h
    · rename_i z hz
      rw [hz] at e
      rw [show z + 2 = z.succ.succ from rfl, e] at h
      obtain ⟨h1, h2⟩ := ih (step x) h
      refine ⟨h1, fun d hd1 hd2 => ?_⟩
      rcases d with _ | d
      · omega
      · rcases Nat.eq_zero_or_pos d with h0 | h0
        · subst h0
          intro he
          have := congrArg BitVec.toNat he
          simp only [steps] at this
          rw [← e] at this
          simp at this
        · exact h2 d h0 (by omega)
theorem runs_spec (k : Nat) (x : BitVec 32) (h : runs k x.toNat = true) : ∀ d, 1 ≤ d → d ≤ 256 * k → steps d x ≠ 1#32 := by
  induction k generalizing x with
  | zero => intro d h1 h2; omega
  | succ k ih =>
    intro d h1 h2
    unfold runs at h
    split at h
    · simp at h
    · rename_i y hy
      obtain ⟨h3, h4⟩ := run_spec 256 x y hy
      rcases Nat.lt_or_ge 256 d with h5 | h5
      · rw [← h3] at h
        have := ih (steps 256 x) h (d - 256) (by omega) (by omega)
        rwa [← steps_add, show 256 + (d - 256) = d from by omega] at this
      · exact h4 d h1 h5
theorem order (d : Nat) (h1 : 1 ≤ d) (h2 : d ≤ 32768) : steps d 1#32 ≠ 1#32 := runs_spec 128 1#32 runs_ok d h1 (by omega)

theorem one_turn (a : Nat) : steps a 1#32 ≠ 0#32 := fun h => by
  have := steps_null h
  exact absurd this (by decide)
theorem two_turns (a b : Nat) (hab : a ≠ b) (ha : a ≤ 32768) (hb : b ≤ 32768) : steps a 1#32 ^^^ steps b 1#32 ≠ 0#32 := fun h => by
  have e := xor_eq_zero h
  rcases Nat.lt_or_ge a b with h1 | h1
  · rw [show b = (b - a) + a from by omega, steps_add] at e
    exact order (b - a) (by omega) (by omega) (steps_inj e).symm
  · rw [show a = (a - b) + b from by omega, steps_add] at e
    exact order (a - b) (by omega) (by omega) (steps_inj e)

/-- Evenness of the register: a step keeps it. -/
def parN : Nat → BitVec 32 → Bool
  | 0, _ => false
  | k + 1, x => x.getLsbD k ^^ parN k x
def par (x : BitVec 32) : Bool := parN 32 x
theorem xor_swap (a b c d : Bool) : ((a ^^ b) ^^ (c ^^ d)) = ((a ^^ c) ^^ (b ^^ d)) := by cases a <;> cases b <;> cases c <;> cases d <;> rfl
theorem parN_xor (k : Nat) (a b : BitVec 32) : parN k (a ^^^ b) = (parN k a ^^ parN k b) := by
  induction k with
  | zero => rfl
  | succ k ih => simp only [parN, BitVec.getLsbD_xor, ih, xor_swap]
theorem par_xor (a b : BitVec 32) : par (a ^^^ b) = (par a ^^ par b) := parN_xor 32 a b
theorem parN_shift (k : Nat) (n : BitVec 32) : parN k (n >>> 1) = (parN (k + 1) n ^^ n.getLsbD 0) := by
  induction k with
  | zero => simp [parN]
  | succ k ih =>
    rw [parN, ih, BitVec.getLsbD_ushiftRight, Nat.add_comm 1 k, ← Bool.xor_assoc]
    rfl
theorem par_step (n : BitVec 32) : par (step n) = par n := by
  rw [step_eq, par_xor]
  have h : par (n >>> 1) = (par n ^^ n.getLsbD 0) := by
    unfold par
    rw [parN_shift, show parN (32 + 1) n = (n.getLsbD 32 ^^ parN 32 n) from rfl, BitVec.getLsbD_of_ge n 32 (by omega), Bool.false_xor]
  rw [h]
  cases n.getLsbD 0
  · simp only [Bool.xor_false, Bool.false_eq_true, if_false]
    rw [show par 0#32 = false from by decide, Bool.xor_false]
  · simp only [if_true]
    rw [show par poly = true from by decide, Bool.xor_assoc]
    simp
theorem par_steps (k : Nat) (n : BitVec 32) : par (steps k n) = par n := by
  induction k generalizing n with
  | zero => rfl
  | succ k ih => exact (ih (step n)).trans (par_step n)
theorem three_turns (a b c : Nat) : steps a 1#32 ^^^ steps b 1#32 ^^^ steps c 1#32 ≠ 0#32 := fun h => by
  have := congrArg par h
  rw [par_xor, par_xor, par_steps, par_steps, par_steps] at this
  exact absurd this (by decide)
end Crc
end Go.Proofs.Ytmfobogicdeokaa
