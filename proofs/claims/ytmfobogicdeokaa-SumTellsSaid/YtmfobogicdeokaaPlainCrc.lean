/-
  The plain law of the sums, behind: the register's step is linear and one to one; what a text's last four bytes do; what turned bits do. No program in sight.
-/
import Derived.Test.YtmfobogicdeokaaPlainSum
namespace Go.Proofs.Ytmfobogicdeokaa
namespace Crc

theorem step_eq (n : BitVec 32) : step n = (n >>> 1) ^^^ (if n.getLsbD 0 then poly else 0#32) := by
  unfold step
  congr 1
  have h : n &&& 1#32 = if n.getLsbD 0 then 1#32 else 0#32 := by
    apply BitVec.eq_of_getLsbD_eq
    intro i hi
    rcases i with _ | i
    · cases hn : n.getLsbD 0 <;> simpa using hn
    · cases n.getLsbD 0 <;> simp
  rw [h]
  cases n.getLsbD 0 <;> decide

theorem step_xor (a b : BitVec 32) : step (a ^^^ b) = step a ^^^ step b := by
  rw [step_eq, step_eq, step_eq, BitVec.ushiftRight_xor_distrib, BitVec.getLsbD_xor]
  cases a.getLsbD 0 <;> cases b.getLsbD 0
  · simp
  · simp [BitVec.xor_assoc]
  · simp only [Bool.true_xor, Bool.not_false, if_true, Bool.false_eq_true, if_false, BitVec.xor_zero]
    rw [BitVec.xor_assoc, BitVec.xor_assoc, BitVec.xor_comm (b >>> 1)]
  · simp only [Bool.true_xor, Bool.not_true, if_true, Bool.false_eq_true, if_false, BitVec.xor_zero]
    rw [← BitVec.xor_assoc, BitVec.xor_assoc (a >>> 1), BitVec.xor_comm poly, ← BitVec.xor_assoc, BitVec.xor_assoc _ poly, BitVec.xor_self, BitVec.xor_zero]

theorem step_zero : step 0#32 = 0#32 := by decide
theorem step_null (d : BitVec 32) (h : step d = 0#32) : d = 0#32 := by
  rw [step_eq] at h
  cases hd : d.getLsbD 0
  · rw [hd] at h
    simp only [Bool.false_eq_true, if_false, BitVec.xor_zero] at h
    apply BitVec.eq_of_getLsbD_eq
    intro i hi
    rcases i with _ | i
    · simpa using hd
    · have := congrArg (fun x => x.getLsbD i) h
      simpa [Nat.add_comm] using this
  · rw [hd] at h
    have := congrArg (fun x => x.getLsbD 31) h
    simp at this
    exact absurd this (by decide)
theorem xor_eq_zero {a b : BitVec 32} (h : a ^^^ b = 0#32) : a = b := by
  have := congrArg (· ^^^ b) h
  simpa [BitVec.xor_assoc] using this
theorem step_inj {a b : BitVec 32} (h : step a = step b) : a = b := by
  apply xor_eq_zero
  apply step_null
  rw [step_xor, h, BitVec.xor_self]

theorem steps_xor (k : Nat) (a b : BitVec 32) : steps k (a ^^^ b) = steps k a ^^^ steps k b := by
  induction k generalizing a b with
  | zero => rfl
  | succ k ih => simp only [steps, step_xor, ih]
theorem steps_zero (k : Nat) : steps k 0#32 = 0#32 := by
  induction k with
  | zero => rfl
  | succ k ih => simp only [steps, step_zero, ih]
theorem steps_inj {k : Nat} {a b : BitVec 32} (h : steps k a = steps k b) : a = b := by
  induction k generalizing a b with
  | zero => exact h
  | succ k ih => exact step_inj (ih h)
theorem steps_null {k : Nat} {a : BitVec 32} (h : steps k a = 0#32) : a = 0#32 := steps_inj (h.trans (steps_zero k).symm)

/-- Linear in the register and in the text. -/
theorem byte_xor (a b : BitVec 32) (c d : UInt8) : byte (a ^^^ b) (c ^^^ d) = byte a c ^^^ byte b d := by
  unfold byte
  rw [← steps_xor]
  congr 1
  have : BitVec.ofNat 32 (c ^^^ d).toNat = BitVec.ofNat 32 c.toNat ^^^ BitVec.ofNat 32 d.toNat := by
    apply BitVec.eq_of_toNat_eq
    simp only [BitVec.toNat_ofNat, BitVec.toNat_xor, UInt8.toNat_xor, Nat.xor_mod_two_pow]
  rw [this, BitVec.xor_assoc, BitVec.xor_assoc]
  congr 1
  rw [← BitVec.xor_assoc, BitVec.xor_comm b, BitVec.xor_assoc]

def xorl : List UInt8 → List UInt8 → List UInt8
  | c :: l, d :: m => (c ^^^ d) :: xorl l m
  | _, _ => []
theorem add_xor (a b : BitVec 32) (l m : List UInt8) (h : l.length = m.length) : add (a ^^^ b) (xorl l m) = add a l ^^^ add b m := by
  induction l generalizing a b m with
  | nil => cases m with
    | nil => rfl
    | cons d m => simp at h
  | cons c l ih => cases m with
    | nil => simp at h
    | cons d m =>
      simp only [xorl, add, byte_xor]
      exact ih _ _ m (by simpa using h)
theorem add_reg (a b : BitVec 32) (l : List UInt8) : add (a ^^^ b) l = add a l ^^^ steps (8 * l.length) b := by
  induction l generalizing a b with
  | nil => rfl
  | cons c l ih =>
    simp only [add]
    have h : byte (a ^^^ b) c = byte a c ^^^ steps 8 b := by
      unfold byte
      rw [← steps_xor]
      congr 1
      rw [BitVec.xor_assoc, BitVec.xor_assoc, BitVec.xor_comm b]
    rw [h, ih, ← steps_add, List.length_cons]
    congr 2
    omega

/-- The last four bytes. -/
theorem step_shift (y : BitVec 32) (h : y.getLsbD 31 = false) : step (y <<< 1) = y := by
  rw [step_eq]
  have h0 : (y <<< 1).getLsbD 0 = false := by simp
  rw [h0]
  simp only [Bool.false_eq_true, if_false, BitVec.xor_zero]
  apply BitVec.eq_of_getLsbD_eq
  intro i hi
  rw [BitVec.getLsbD_ushiftRight, BitVec.getLsbD_shiftLeft]
  rcases Nat.lt_or_ge i 31 with h1 | h1
  · have h2 : 1 + i < 32 := by omega
    simp [h2]
  · have : i = 31 := by omega
    subst this
    rw [h]
    simp
theorem steps_shift (k : Nat) (y : BitVec 32) (hk : k ≤ 32) (h : ∀ i, 32 - k ≤ i → y.getLsbD i = false) : steps k (y <<< k) = y := by
  induction k generalizing y with
  | zero => simp [steps]
  | succ k ih =>
    have e : y <<< (k + 1) = (y <<< k) <<< 1 := by rw [BitVec.shiftLeft_add]
    simp only [steps]
    rw [e, step_shift _ (by
      rw [BitVec.getLsbD_shiftLeft]
      rcases Nat.lt_or_ge 31 k with h1 | h1
      · omega
      · simp [h (31 - k) (by omega)])]
    exact ih y (by omega) fun i hi => h i (by omega)
theorem byte_split (s x : BitVec 32) : steps 8 (s ^^^ x) = byte s (UInt8.ofNat x.toNat) ^^^ (x >>> 8) := by
  have e : x = BitVec.ofNat 32 (UInt8.ofNat x.toNat).toNat ^^^ ((x >>> 8) <<< 8) := by
    apply BitVec.eq_of_getLsbD_eq
    intro i hi
    have hb : (BitVec.ofNat 32 (UInt8.ofNat x.toNat).toNat).getLsbD i = (decide (i < 8) && x.getLsbD i) := by
      rw [BitVec.getLsbD_ofNat, UInt8.toNat_ofNat', Nat.testBit_mod_two_pow]
      simp [hi, BitVec.getLsbD]
    rw [BitVec.getLsbD_xor, hb, BitVec.getLsbD_shiftLeft, BitVec.getLsbD_ushiftRight]
    rcases Nat.lt_or_ge i 8 with h8 | h8
    · simp [h8]
    · have h8' : ¬ i < 8 := by omega
      rw [show 8 + (i - 8) = i from by omega]
      simp [h8', hi]
  have h1 : steps 8 ((x >>> 8) <<< 8) = x >>> 8 := steps_shift 8 _ (by omega) fun i hi => by
    rw [BitVec.getLsbD_ushiftRight]
    exact BitVec.getLsbD_of_ge _ _ (by omega)
  unfold byte
  have h2 : steps 8 (s ^^^ BitVec.ofNat 32 (UInt8.ofNat x.toNat).toNat) ^^^ (x >>> 8) = steps 8 ((s ^^^ BitVec.ofNat 32 (UInt8.ofNat x.toNat).toNat) ^^^ ((x >>> 8) <<< 8)) := by
    rw [steps_xor _ (s ^^^ _), h1]
  rw [h2, BitVec.xor_assoc, ← e]
theorem add_four (s x : BitVec 32) : add s (four x) = steps 32 (s ^^^ x) := by
  have d8 : ∀ y : BitVec 32, (y >>> 8).toNat = y.toNat / 256 := fun y => by rw [BitVec.toNat_ushiftRight, Nat.shiftRight_eq_div_pow]
  have e1 : x.toNat / 256 = (x >>> 8).toNat := (d8 x).symm
  have e2 : x.toNat / 65536 = ((x >>> 8) >>> 8).toNat := by rw [d8, d8, Nat.div_div_eq_div_mul]
  have e3 : x.toNat / 16777216 = (((x >>> 8) >>> 8) >>> 8).toNat := by rw [d8, d8, d8, Nat.div_div_eq_div_mul, Nat.div_div_eq_div_mul]
  have e4 : ((((x >>> 8) >>> 8) >>> 8) >>> 8) = 0#32 := by
    apply BitVec.eq_of_toNat_eq
    rw [d8, d8, d8, d8]
    have := x.isLt
    simp
    omega
  have e0 : steps 32 (s ^^^ x) = steps 8 (steps 8 (steps 8 (steps 8 (s ^^^ x)))) := rfl
  rw [e0, byte_split, byte_split, byte_split, byte_split, e4, BitVec.xor_zero, four, e1, e2, e3]
  rfl
theorem sum_last {l : List UInt8} {x y : BitVec 32} (h : sum (l ++ four x) = sum (l ++ four y)) : x = y := by
  unfold sum at h
  have h1 : add ones (l ++ four x) = add ones (l ++ four y) := by
    have := congrArg (fun z => ~~~ z) h
    simpa using this
  rw [add_append, add_append, add_four, add_four] at h1
  have h2 := steps_inj h1
  have := congrArg (fun z => add ones l ^^^ z) h2
  simpa [← BitVec.xor_assoc] using this

/-- A sealed text leaves the register at one number. -/
def rest : BitVec 32 := steps 32 ones
theorem add_sealed (l : List UInt8) : add ones (sealed l) = rest := by
  unfold sealed sum
  rw [add_append, add_four]
  unfold rest
  congr 1
  rw [← BitVec.xor_allOnes, ← BitVec.xor_assoc, BitVec.xor_self, BitVec.zero_xor]
  rfl
theorem sealed_length (l : List UInt8) : (sealed l).length = l.length + 4 := by simp [sealed, four]
theorem sealed_take (l : List UInt8) : (sealed l).take l.length = l := by simp [sealed]

def num4 (a b c d : UInt8) : BitVec 32 := BitVec.ofNat 32 (a.toNat + b.toNat * 256 + c.toNat * 65536 + d.toNat * 16777216)
theorem four_num4 (a b c d : UInt8) : four (num4 a b c d) = [a, b, c, d] := by
  have ha := a.toNat_lt
  have hb := b.toNat_lt
  have hc := c.toNat_lt
  have hd := d.toNat_lt
  have hn : (num4 a b c d).toNat = a.toNat + b.toNat * 256 + c.toNat * 65536 + d.toNat * 16777216 := by
    unfold num4
    rw [BitVec.toNat_ofNat, Nat.mod_eq_of_lt (by omega)]
  unfold four
  rw [hn]
  congr 1
  · apply UInt8.toNat_inj.1; rw [UInt8.toNat_ofNat']; omega
  congr 1
  · apply UInt8.toNat_inj.1; rw [UInt8.toNat_ofNat']; omega
  congr 1
  · apply UInt8.toNat_inj.1; rw [UInt8.toNat_ofNat']; omega
  congr 1
  · apply UInt8.toNat_inj.1; rw [UInt8.toNat_ofNat']; omega
/-- A text is what its own front, sealed, comes to, just if it leaves the register at that number. -/
theorem good_iff (t : List UInt8) (h : 4 ≤ t.length) : sealed (t.take (t.length - 4)) = t ↔ add ones t = rest := by
  constructor
  · intro e
    rw [← e]
    exact add_sealed _
  · intro e
    obtain ⟨a, b, c, d, hd⟩ : ∃ a b c d, t.drop (t.length - 4) = [a, b, c, d] := by
      have hl : (t.drop (t.length - 4)).length = 4 := by rw [List.length_drop]; omega
      match hh : t.drop (t.length - 4), hl with
      | [a, b, c, d], _ => exact ⟨a, b, c, d, rfl⟩
    have ht : t = t.take (t.length - 4) ++ four (num4 a b c d) := by rw [four_num4, ← hd, List.take_append_drop]
    rw [ht, add_append, add_four] at e
    have e2 := steps_inj e
    have e3 : num4 a b c d = sum (t.take (t.length - 4)) := by
      unfold sum
      have := congrArg (fun z => add ones (List.take (t.length - 4) t) ^^^ z) e2
      simp only [← BitVec.xor_assoc, BitVec.xor_self, BitVec.zero_xor] at this
      rw [this, ← BitVec.xor_allOnes]
      rfl
    unfold sealed
    rw [← e3]
    exact ht.symm

/-- One bit turned. -/
def turn : List UInt8 → Nat → List UInt8
  | [], _ => []
  | c :: l, p => if p < 8 then (c ^^^ UInt8.ofNat (2 ^ p)) :: l else c :: turn l (p - 8)
theorem turn_length (l : List UInt8) (p : Nat) : (turn l p).length = l.length := by
  induction l generalizing p with
  | nil => rfl
  | cons c l ih =>
    unfold turn
    split
    · rfl
    · simp [ih]
theorem one_bit (p : Nat) (hp : p < 32) (k : Nat) (hk : p ≤ k) : steps k (1#32 <<< p) = steps (k - p) 1#32 := by
  have h := steps_shift p 1#32 (by omega) (fun i hi => by
    rw [BitVec.getLsbD_one]
    simp
    omega)
  rw [show k = p + (k - p) from by omega, steps_add, h]
  congr 1
  omega
theorem add_turn (r : BitVec 32) (l : List UInt8) (p : Nat) (hp : p < 8 * l.length) : add r (turn l p) = add r l ^^^ steps (8 * l.length - p) 1#32 := by
  induction l generalizing r p with
  | nil => simp at hp
  | cons c l ih =>
    unfold turn
    rcases Nat.lt_or_ge p 8 with h8 | h8
    · rw [if_pos h8]
      simp only [add]
      have h : byte r (c ^^^ UInt8.ofNat (2 ^ p)) = byte r c ^^^ steps (8 - p) 1#32 := by
        have h1 := byte_xor r 0#32 c (UInt8.ofNat (2 ^ p))
        rw [BitVec.xor_zero] at h1
        rw [h1]
        congr 1
        unfold byte
        rw [BitVec.zero_xor, ← one_bit p (by omega) 8 (by omega)]
        congr 1
        have hlt : 2 ^ p < 256 := by
          have : 2 ^ p < 2 ^ 8 := Nat.pow_lt_pow_right (by omega) h8
          simpa using this
        apply BitVec.eq_of_toNat_eq
        rw [BitVec.toNat_ofNat, UInt8.toNat_ofNat', BitVec.toNat_shiftLeft, Nat.shiftLeft_eq]
        simp only [BitVec.toNat_ofNat, Nat.reducePow, Nat.reduceMod, Nat.one_mul]
        generalize 2 ^ p = z at *
        omega
      rw [h, add_reg, ← steps_add]
      congr 2
      rw [List.length_cons]
      omega
    · rw [if_neg (by omega)]
      simp only [add]
      rw [ih _ (p - 8) (by rw [List.length_cons] at hp; omega)]
      congr 2
      rw [List.length_cons]
      omega

end Crc
end Go.Proofs.Ytmfobogicdeokaa
