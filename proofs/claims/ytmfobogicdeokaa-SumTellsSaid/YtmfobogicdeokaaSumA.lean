/-
  The walks of the sums: sum.add, sum.Parts, sum.Of, sum.Hash: each computes what the plain law says, and changes nothing that was there.
-/
import Derived.Test.YtmfobogicdeokaaRows
import Derived.Test.YtmfobogicdeokaaPlainSum
import Derived.Test.YtmfobogicdeokaaMem
import Derived.Test.YtmfobogicdeokaaBits
import Derived.Lib.Hide
import Derived.WalkKit
import Derived.WalkSpells
import Derived.WalkLawsBesides
namespace Go.Proofs.Ytmfobogicdeokaa
open Go.RowKit

theorem crc_step_bits (x : BitVec 32) : bits .xor .u32 ((x.toNat : Int) / 2) (bits .and .u32 2197175160 (-bits .and .u32 (x.toNat : Int) 1 % 4294967296)) = ((Crc.step x).toNat : Int) := by
  have h1 : bits .and .u32 (x.toNat : Int) 1 = ((x &&& 1#32).toNat : Int) := bits32_and x 1#32
  have h2 : -((x &&& 1#32).toNat : Int) % 4294967296 = ((-(x &&& 1#32)).toNat : Int) := by
    rw [BitVec.toNat_neg]
    have := (x &&& 1#32).isLt
    omega
  have h3 : ((x.toNat : Int) / (2 : Int)) = ((x >>> 1).toNat : Int) := by
    rw [BitVec.toNat_ushiftRight, Nat.shiftRight_eq_div_pow]
    omega
  have h4 : bits .and .u32 2197175160 ((-(x &&& 1#32)).toNat : Int) = ((Crc.poly &&& -(x &&& 1#32)).toNat : Int) := bits32_and Crc.poly _
  rw [h1, h2, h3, h4, bits32_xor]
  rfl

theorem crc_not_bits (x : BitVec 32) : bits .xor .u32 IntKind.u32.max (x.toNat : Int) = ((~~~x).toNat : Int) := by
  have h : bits .xor .u32 IntKind.u32.max (x.toNat : Int) = ((BitVec.allOnes 32 ^^^ x).toNat : Int) := bits32_xor (BitVec.allOnes 32) x
  rw [h, BitVec.allOnes_xor]

theorem crc_add_snoc (m : BitVec 32) (l : List UInt8) (k : Nat) (hl : k < l.length) : Crc.add m (l.take (k + 1)) = Crc.byte (Crc.add m (l.take k)) l[k] := by
  rw [List.take_succ_eq_append_getElem hl, Crc.add_append]
  rfl

set_option maxHeartbeats 400000 in
theorem add_any (m : BitVec 32) (A : Option Addr) (n c : Nat) (l : List UInt8) (w : World) (hn : n ≤ 9223372036854775807) (hr : Row w.heap.size w A n 1 (bts l)) :
    Calls Try.prog 36 #[.int .u32 (m.toNat : Int), .slice A n c] w fun e w' => e = .returned (.int .u32 ((Crc.add m l).toNat : Int)) ∧ w = w' := by
  go_enter Try.func36, Try.ntmps36
  go_wp2
  go_loop [0, 9, 6] (fun x i _ => ∃ k : Nat, k ≤ n ∧ i = .int .i64 k ∧ x = .int .u32 ((Crc.add m (l.take k)).toNat : Int)) (fun _ i _ => n - (intOf i).toNat)
  case atStart => exact ⟨0, Nat.zero_le _, rfl, rfl⟩
  case round =>
    obtain ⟨k, hk, rfl, rfl⟩ := hrel
    by_cases hlt : k < n
    · obtain ⟨a, hl, rfl, _, hc⟩ := hr.bt hlt
      go_wp2
      go_loop [0, 17] (fun x i => ∃ j : Nat, j ≤ 8 ∧ i = .int .i64 j ∧ x = .int .u32 ((Crc.steps j (Crc.add m (l.take k) ^^^ BitVec.ofNat 32 l[k].toNat)).toNat : Int)) (fun _ i => 8 - (intOf i).toNat)
      case atStart => exact ⟨0, Nat.zero_le _, rfl, int_eq (by rw [byte32, bits32_xor]; rfl)⟩
      case round =>
        obtain ⟨j, hj, rfl, rfl⟩ := hrel
        generalize hx : Crc.steps j (Crc.add m (l.take k) ^^^ BitVec.ofNat 32 l[k].toNat) = x
        have HX := Lib.hid hx
        clear hx
        have hx0 : 0 ≤ (x.toNat : Int) := by omega
        have hx1 : (x.toNat : Int) ≤ 4294967295 := by have := x.isLt; omega
        by_cases hj8 : j < 8
        · go_wp2
          go_round
          case rel => exact ⟨j + 1, by omega, by go_num, int_eq (by rw [crc_step_bits, Crc.steps_succ', HX.out])⟩
          case measure => simp [intOf]; omega
        · go_wp2
          go_round
          case rel => exact ⟨k + 1, by omega, by go_num, int_eq (by
            obtain rfl : j = 8 := by omega
            rw [crc_add_snoc m l k hl, Crc.byte, HX.out])⟩
          case measure => simp [intOf]; omega
    · go_wp2
      go_ret
      exact ⟨ret_eq (int_eq (by rw [List.take_of_length_le (by have := hr.btlen; omega)])), rfl⟩

/-- A slice of slices of bytes. -/
def Rows2 (B : Nat) (w : World) (P : Option Addr) (n : Nat) (ls : List (List UInt8)) : Prop :=
  ∃ vs, Row B w P n 1 vs ∧ ls.length = n ∧ ∀ i (h : i < ls.length), ∃ A k c, vs[i]? = some (.slice A k c) ∧ k ≤ c ∧ c ≤ maxLen ∧ Row B w A k 1 (bts ls[i])
theorem Rows2.at_ {B : Nat} {w : World} {P : Option Addr} {n : Nat} {ls : List (List UInt8)} (h : Rows2 B w P n ls) {i : Nat} (hi : i < n) :
    ∃ a A k c, ∃ hl : i < ls.length, P = some a ∧ a.block < B ∧ w.cell? (a.add i) = some (.slice A k c) ∧ k ≤ c ∧ c ≤ maxLen ∧ Row B w A k 1 (bts ls[i]) := by
  obtain ⟨vs, hr, hl, hf⟩ := h
  obtain ⟨a, v, e, b, hv, hc⟩ := hr.at1 hi
  obtain ⟨A, k, c, h1, h2, h3, h4⟩ := hf i (by omega)
  rw [h1] at hv
  injection hv with hv
  exact ⟨a, A, k, c, by omega, e, b, by rw [hc, ← hv], h2, h3, h4⟩
theorem Rows2.below {B : Nat} {w w' : World} {P : Option Addr} {n : Nat} {ls : List (List UInt8)} (h : Rows2 B w P n ls) (hb : Below B w w') : Rows2 B w' P n ls := by
  obtain ⟨vs, hr, hl, hf⟩ := h
  exact ⟨vs, hr.below hb, hl, fun i hi => let ⟨A, k, c, h1, h2, h3, h4⟩ := hf i hi; ⟨A, k, c, h1, h2, h3, h4.below hb⟩⟩

def addAll (m : BitVec 32) : List (List UInt8) → BitVec 32
  | [] => m
  | l :: ls => addAll (Crc.add m l) ls
theorem addAll_append (m : BitVec 32) (a b : List (List UInt8)) : addAll m (a ++ b) = addAll (addAll m a) b := by
  induction a generalizing m with
  | nil => rfl
  | cons x l ih => exact ih _
theorem addAll_snoc (m : BitVec 32) (ls : List (List UInt8)) (k : Nat) (hl : k < ls.length) : addAll m (ls.take (k + 1)) = Crc.add (addAll m (ls.take k)) ls[k] := by
  rw [List.take_succ_eq_append_getElem hl, addAll_append]
  rfl
theorem addAll_flat (m : BitVec 32) (ls : List (List UInt8)) : addAll m ls = Crc.add m ls.flatten := by
  induction ls generalizing m with
  | nil => rfl
  | cons x l ih => rw [List.flatten_cons, Crc.add_append]; exact ih _

set_option maxHeartbeats 400000 in
theorem parts_any (P : Option Addr) (n c : Nat) (ls : List (List UInt8)) (w : World) (hn : n ≤ 9223372036854775807) (hr : Rows2 w.heap.size w P n ls) :
    Calls Try.prog 16 #[.slice P n c] w fun e w' => e = .returned (.int .u32 ((Crc.sum ls.flatten).toNat : Int)) ∧ w = w' := by
  go_enter Try.func16, Try.ntmps16
  go_wp2
  go_loop [3, 8, 5] (fun x i _ => ∃ k : Nat, k ≤ n ∧ i = .int .i64 k ∧ x = .int .u32 ((addAll Crc.ones (ls.take k)).toNat : Int)) (fun _ i _ => n - (intOf i).toNat)
  case atStart => exact ⟨0, Nat.zero_le _, rfl, rfl⟩
  case round =>
    obtain ⟨k, hk, rfl, rfl⟩ := hrel
    by_cases hlt : k < n
    · obtain ⟨a, A, k', c', hl, rfl, _, hc, hkc, hcm, hr2⟩ := hr.at_ hlt
      unfold maxLen at hcm
      go_wp2_with (go_at_call 36; refine (add_any _ _ _ _ _ _ (by omega) hr2).mono ?_; rintro e w' ⟨rfl, rfl⟩)
      go_round
      case rel => exact ⟨k + 1, by omega, by go_num, int_eq (by rw [addAll_snoc _ _ _ hl])⟩
      case measure => simp [intOf]; omega
    · have hx0 : 0 ≤ ((addAll Crc.ones (ls.take k)).toNat : Int) := by omega
      have hx1 : ((addAll Crc.ones (ls.take k)).toNat : Int) ≤ 4294967295 := by have := (addAll Crc.ones (ls.take k)).isLt; omega
      go_wp2
      go_ret
      have hlen : ls.length = n := by obtain ⟨_, _, h, _⟩ := hr; exact h
      refine ⟨ret_eq (int_eq ?_), rfl⟩
      rw [List.take_of_length_le (by omega), addAll_flat, crc_not_bits]
      rfl

theorem row_box (w : World) (e : TypeId) (A : Option Addr) (n c : Nat) (l : List UInt8) (hr : Row w.heap.size w A n 1 (bts l)) (hc : n ≤ c) (hm : c ≤ maxLen) :
    Rows2 (w.alloc (.cells #[.slice A n c] e)).heap.size (w.alloc (.cells #[.slice A n c] e)) (some ⟨w.heap.size, 0, none⟩) 1 [l] := by
  refine ⟨_, (Row.new w #[.slice A n c] e (n := 1) (size := 1) rfl).up (by simp), rfl, fun i hi => ?_⟩
  obtain rfl : i = 0 := by simpa using hi
  exact ⟨A, n, c, rfl, hc, hm, (hr.alloc (Nat.le_refl _) _).up (by simp)⟩

set_option maxHeartbeats 400000 in
theorem of_any (A : Option Addr) (n c : Nat) (l : List UInt8) (w : World) (hn : n ≤ c) (hm : c ≤ maxLen) (hr : Row w.heap.size w A n 1 (bts l)) :
    Calls Try.prog 18 #[.slice A n c] w fun e w' => e = .returned (.int .u32 ((Crc.sum l).toNat : Int)) ∧ Below w.heap.size w w' := by
  have hb := row_box w 22 A n c l hr hn hm
  go_enter Try.func18, Try.ntmps18
  go_wp2_with (go_at_call 16; refine (parts_any _ _ _ _ _ (by omega) hb).mono ?_; rintro e w' ⟨rfl, rfl⟩)
  go_ret
  refine ⟨ret_eq (int_eq (by simp)), (Below.refl _ _).alloc (Nat.le_refl _) _⟩
end Go.Proofs.Ytmfobogicdeokaa
