/-
  The plain law of the sums, behind: bits that are turned within 32 in a row; up to three bits anywhere. No program in sight.
-/
import Derived.Test.YtmfobogicdeokaaPlainTurns
namespace Go.Proofs.Ytmfobogicdeokaa
namespace Crc

/-- The bits of x from place k on, as far as they lie within M, are turned: the first i of them. -/
def burst (l : List UInt8) (k M : Nat) (x : BitVec 32) : Nat → List UInt8
  | 0 => l
  | i + 1 => if x.getLsbD i && decide (k + i < M) then turn (burst l k M x i) (k + i) else burst l k M x i
def burstE (k M : Nat) (x : BitVec 32) : Nat → BitVec 32
  | 0 => 0#32
  | i + 1 => if x.getLsbD i && decide (k + i < M) then burstE k M x i ^^^ (1#32 <<< i) else burstE k M x i
def burstT (k M : Nat) (x : BitVec 32) : Nat → Bool
  | 0 => false
  | i + 1 => if x.getLsbD i && decide (k + i < M) then true else burstT k M x i
theorem burst_length (l : List UInt8) (k M : Nat) (x : BitVec 32) (i : Nat) : (burst l k M x i).length = l.length := by
  induction i with
  | zero => rfl
  | succ i ih =>
    unfold burst
    split
    · rw [turn_length, ih]
    · exact ih
theorem burst_add (l : List UInt8) (k : Nat) (x : BitVec 32) (i : Nat) (hi : i ≤ 32) : add ones (burst l k (8 * l.length) x i) = add ones l ^^^ steps (8 * l.length - k) (burstE k (8 * l.length) x i) := by
  induction i with
  | zero => simp [burst, burstE, steps_zero]
  | succ i ih =>
    unfold burst burstE
    by_cases h : (x.getLsbD i && decide (k + i < 8 * l.length)) = true
    · rw [if_pos h, if_pos h]
      have hlt : k + i < 8 * l.length := by
        rw [Bool.and_eq_true, decide_eq_true_eq] at h
        exact h.2
      rw [add_turn _ _ _ (by rw [burst_length]; exact hlt), ih (by omega), burst_length, steps_xor, one_bit i (by omega) _ (by omega), BitVec.xor_assoc]
      congr 3
      omega
    · rw [if_neg h, if_neg h]
      exact ih (by omega)
theorem burstE_get (k M : Nat) (x : BitVec 32) (i j : Nat) (hj : j < 32) : (burstE k M x i).getLsbD j = (decide (j < i) && (x.getLsbD j && decide (k + j < M))) := by
  induction i with
  | zero => simp [burstE]
  | succ i ih =>
    unfold burstE
    by_cases h : (x.getLsbD i && decide (k + i < M)) = true
    · rw [if_pos h, BitVec.getLsbD_xor, ih, BitVec.getLsbD_shiftLeft, BitVec.getLsbD_one]
      rcases Nat.lt_trichotomy j i with h1 | h1 | h1
      · have h2 : ¬ (j - i = 0 ∧ ¬ j < i) := by omega
        simp [h1, show j < i + 1 by omega]
      · subst h1
        rw [h]
        simp [hj]
      · have h2 : ¬ j < i := by omega
        have h3 : ¬ j < i + 1 := by omega
        have h4 : ¬ j - i = 0 := by omega
        simp [h2, h3, h4]
    · rw [if_neg h, ih]
      by_cases h1 : j = i
      · subst h1
        have h2 : ¬ j < j := by omega
        have h3 : (x.getLsbD j && decide (k + j < M)) = false := by simpa using h
        rw [h3]
        simp
      · have : (j < i) ↔ (j < i + 1) := by omega
        simp [this]
theorem burstT_false (k M : Nat) (x : BitVec 32) (i : Nat) (h : burstT k M x i = false) : ∀ j, j < i → (x.getLsbD j && decide (k + j < M)) = false := by
  induction i with
  | zero => intro j hj; omega
  | succ i ih =>
    unfold burstT at h
    by_cases h0 : (x.getLsbD i && decide (k + i < M)) = true
    · rw [if_pos h0] at h
      cases h
    · rw [if_neg h0] at h
      intro j hj
      rcases Nat.lt_or_ge j i with h1 | h1
      · exact ih h j h1
      · obtain rfl : j = i := by omega
        simpa using h0
theorem burstT_true (k M : Nat) (x : BitVec 32) (i : Nat) (h : burstT k M x i = true) : ∃ j, j < i ∧ (x.getLsbD j && decide (k + j < M)) = true := by
  induction i with
  | zero => cases h
  | succ i ih =>
    unfold burstT at h
    by_cases h0 : (x.getLsbD i && decide (k + i < M)) = true
    · exact ⟨i, by omega, h0⟩
    · rw [if_neg h0] at h
      obtain ⟨j, h1, h2⟩ := ih h
      exact ⟨j, by omega, h2⟩
/-- A burst in a sealed text is found just if it turned a bit. -/
theorem burst_good (l : List UInt8) (k : Nat) (x : BitVec 32) : (sealed ((burst (sealed l) k (8 * (sealed l).length) x 32).take l.length) == burst (sealed l) k (8 * (sealed l).length) x 32) = !burstT k (8 * (sealed l).length) x 32 := by
  have hlen : (burst (sealed l) k (8 * (sealed l).length) x 32).length = l.length + 4 := by rw [burst_length, sealed_length]
  have hg := good_iff (burst (sealed l) k (8 * (sealed l).length) x 32) (by omega)
  rw [show (burst (sealed l) k (8 * (sealed l).length) x 32).length - 4 = l.length from by omega] at hg
  rw [burst_add _ _ _ _ (Nat.le_refl _), add_sealed] at hg
  have hz : rest ^^^ steps (8 * (sealed l).length - k) (burstE k (8 * (sealed l).length) x 32) = rest ↔ burstE k (8 * (sealed l).length) x 32 = 0#32 := by
    constructor
    · intro h
      have := congrArg (rest ^^^ ·) h
      simp only [← BitVec.xor_assoc, BitVec.xor_self, BitVec.zero_xor] at this
      exact steps_null this
    · intro h
      rw [h, steps_zero, BitVec.xor_zero]
  rw [hz] at hg
  cases ht : burstT k (8 * (sealed l).length) x 32
  · rw [Bool.not_false, beq_iff_eq, hg]
    apply BitVec.eq_of_getLsbD_eq
    intro j hj
    rw [burstE_get _ _ _ _ _ hj, burstT_false _ _ _ _ ht j hj]
    simp
  · rw [Bool.not_true, beq_eq_false_iff_ne, Ne, hg]
    intro h
    obtain ⟨j, hj, h2⟩ := burstT_true _ _ _ _ ht
    have := burstE_get k (8 * (sealed l).length) x 32 j hj
    rw [h, h2] at this
    simp [hj] at this

/-- The bits at the places are turned, one by one. -/
def turnAll (l : List UInt8) : List Nat → List UInt8
  | [] => l
  | p :: ps => turnAll (turn l p) ps
theorem turnAll_append (l : List UInt8) (a b : List Nat) : turnAll l (a ++ b) = turnAll (turnAll l a) b := by
  induction a generalizing l with
  | nil => rfl
  | cons p ps ih => exact ih _
theorem turnAll_length (l : List UInt8) (ps : List Nat) : (turnAll l ps).length = l.length := by
  induction ps generalizing l with
  | nil => rfl
  | cons p ps ih => rw [turnAll, ih, turn_length]
def sumE (M : Nat) : List Nat → BitVec 32
  | [] => 0#32
  | p :: ps => steps (M - p) 1#32 ^^^ sumE M ps
theorem turnAll_add (l : List UInt8) (ps : List Nat) (h : ∀ p ∈ ps, p < 8 * l.length) : add ones (turnAll l ps) = add ones l ^^^ sumE (8 * l.length) ps := by
  induction ps generalizing l with
  | nil => simp [turnAll, sumE]
  | cons p ps ih =>
    rw [turnAll, ih _ (by rw [turn_length]; exact fun q hq => h q (List.mem_cons_of_mem _ hq)), turn_length, add_turn _ _ _ (h p List.mem_cons_self), sumE, BitVec.xor_assoc]
theorem turn_cons (c : UInt8) (l : List UInt8) (p : Nat) : turn (c :: l) p = if p < 8 then (c ^^^ UInt8.ofNat (2 ^ p)) :: l else c :: turn l (p - 8) := rfl
theorem turn_twice (l : List UInt8) (p : Nat) : turn (turn l p) p = l := by
  induction l generalizing p with
  | nil => rfl
  | cons c l ih =>
    rw [turn_cons]
    by_cases h : p < 8
    · rw [if_pos h, turn_cons, if_pos h]
      congr 1
      rw [UInt8.xor_assoc, UInt8.xor_self, UInt8.xor_zero]
    · rw [if_neg h, turn_cons, if_neg h, ih]
theorem turn_comm (l : List UInt8) (p q : Nat) : turn (turn l p) q = turn (turn l q) p := by
  induction l generalizing p q with
  | nil => rfl
  | cons c l ih =>
    simp only [turn_cons]
    by_cases h : p < 8 <;> by_cases k : q < 8 <;> simp only [h, k, if_true, if_false, turn_cons]
    · rw [UInt8.xor_assoc, UInt8.xor_assoc, UInt8.xor_comm (UInt8.ofNat (2 ^ p))]
    · rw [ih]
/-- Up to three bits that are turned are found, if any is turned in the end. -/
theorem turns_good (l : List UInt8) (ps : List Nat) (h : ∀ p ∈ ps, p < 8 * (sealed l).length) (h3 : ps.length ≤ 3) (hb : 8 * (sealed l).length ≤ 32768) (hne : turnAll (sealed l) ps ≠ sealed l) :
    sealed ((turnAll (sealed l) ps).take l.length) ≠ turnAll (sealed l) ps := by
  have hlen : (turnAll (sealed l) ps).length = l.length + 4 := by rw [turnAll_length, sealed_length]
  have hg := good_iff (turnAll (sealed l) ps) (by omega)
  rw [show (turnAll (sealed l) ps).length - 4 = l.length from by omega] at hg
  rw [Ne, hg, turnAll_add _ _ h, add_sealed]
  intro e
  have e2 := congrArg (rest ^^^ ·) e
  simp only [← BitVec.xor_assoc, BitVec.xor_self, BitVec.zero_xor] at e2
  match ps, h3 with
  | [], _ => exact hne rfl
  | [p], _ =>
    simp only [sumE, BitVec.xor_zero] at e2
    exact one_turn _ e2
  | [p, q], _ =>
    have hp := h p (by simp)
    have hq := h q (by simp)
    by_cases hpq : p = q
    · subst hpq
      exact hne (by rw [turnAll, turnAll, turnAll, turn_twice])
    · simp only [sumE, BitVec.xor_zero] at e2
      exact two_turns _ _ (by omega) (by omega) (by omega) e2
  | [p, q, r], _ =>
    simp only [sumE, BitVec.xor_zero, ← BitVec.xor_assoc] at e2
    exact three_turns _ _ _ e2
end Crc
end Go.Proofs.Ytmfobogicdeokaa
