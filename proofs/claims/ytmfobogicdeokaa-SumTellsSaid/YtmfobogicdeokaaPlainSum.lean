/-
  The plain law of the sums: the register of a cyclic sum as a function on 32 bits, and of a hash on 64 bits. No program in sight.
-/
import Derived.Below
namespace Go.Proofs.Ytmfobogicdeokaa

namespace Crc
def poly : BitVec 32 := 0x82f63b78#32
def step (n : BitVec 32) : BitVec 32 := (n >>> 1) ^^^ (poly &&& -(n &&& 1#32))
def steps : Nat → BitVec 32 → BitVec 32
  | 0, n => n
  | k + 1, n => steps k (step n)
def byte (n : BitVec 32) (c : UInt8) : BitVec 32 := steps 8 (n ^^^ BitVec.ofNat 32 c.toNat)
def add (n : BitVec 32) : List UInt8 → BitVec 32
  | [] => n
  | c :: l => add (byte n c) l
def ones : BitVec 32 := 0xffffffff#32
def sum (l : List UInt8) : BitVec 32 := ~~~ add ones l
theorem add_append (n : BitVec 32) (a b : List UInt8) : add n (a ++ b) = add (add n a) b := by
  induction a generalizing n with
  | nil => rfl
  | cons c l ih => exact ih (byte n c)
theorem steps_succ' (k : Nat) (n : BitVec 32) : steps (k + 1) n = step (steps k n) := by
  induction k generalizing n with
  | zero => rfl
  | succ k ih => exact ih (step n)
theorem steps_add (j k : Nat) (n : BitVec 32) : steps (j + k) n = steps k (steps j n) := by
  induction j generalizing n with
  | zero => simp [steps]
  | succ j ih => rw [show j + 1 + k = (j + k) + 1 from by omega]; exact ih (step n)
/-- The four bytes of a number, the least first. -/
def four (n : BitVec 32) : List UInt8 := [UInt8.ofNat n.toNat, UInt8.ofNat (n.toNat / 256), UInt8.ofNat (n.toNat / 65536), UInt8.ofNat (n.toNat / 16777216)]
def sealed (l : List UInt8) : List UInt8 := l ++ four (sum l)
def opened (l : List UInt8) : Option (List UInt8) := if l.length < 4 then none else if sealed (l.take (l.length - 4)) = l then some (l.take (l.length - 4)) else none
end Crc
namespace Fnv
def basis : BitVec 64 := 14695981039346656037#64
def prime : BitVec 64 := 1099511628211#64
def byte (h : BitVec 64) (c : UInt8) : BitVec 64 := (h ^^^ BitVec.ofNat 64 c.toNat) * prime
def go (h : BitVec 64) : List UInt8 → BitVec 64
  | [] => h
  | c :: l => go (byte h c) l
def hash (l : List UInt8) : BitVec 64 := go basis l
theorem go_append (h : BitVec 64) (a b : List UInt8) : go h (a ++ b) = go (go h a) b := by
  induction a generalizing h with
  | nil => rfl
  | cons c l ih => exact ih (byte h c)
theorem go_snoc (h : BitVec 64) (l : List UInt8) (k : Nat) (hl : k < l.length) : go h (l.take (k + 1)) = byte (go h (l.take k)) l[k] := by
  rw [List.take_succ_eq_append_getElem hl, go_append]
  rfl
/-- The eight bytes of a number, the greatest first. -/
def eight (n : BitVec 64) : List UInt8 := [56, 48, 40, 32, 24, 16, 8, 0].map fun k => UInt8.ofNat (n.toNat / 2 ^ k)
def mix (a b : BitVec 64) : BitVec 64 := hash (eight a ++ eight b)
end Fnv
end Go.Proofs.Ytmfobogicdeokaa
