/-
  From a law's arguments, as the row's frame hands them over, to the words that the walks use.
-/
import Derived.Test.YtfbollkafcdfhaaMem
import Derived.Test.YtfbollkafcdfhaaBits
namespace Go.Proofs.Ytfbollkafcdfhaa
open Go Go.RowKit

theorem u8_of {a : Int} (h : (Lit.int .u8 a).wf = true) : 0 ≤ a ∧ a ≤ 255 := by
  simp [Lit.wf, IntKind.min, IntKind.max, IntKind.signed, IntKind.bits] at h
  omega
theorem byte_of {a : Int} (h : (Lit.int .u8 a).wf = true) : ∃ x : UInt8, a = (x.toNat : Int) := by
  have := u8_of h
  refine ⟨UInt8.ofNat a.toNat, ?_⟩
  rw [UInt8.toNat_ofNat']
  omega
theorem u32_of {a : Int} (h : (Lit.int .u32 a).wf = true) : ∃ x : BitVec 32, a = (x.toNat : Int) := by
  simp [Lit.wf, IntKind.min, IntKind.max, IntKind.signed, IntKind.bits] at h
  refine ⟨BitVec.ofNat 32 a.toNat, ?_⟩
  rw [BitVec.toNat_ofNat, Nat.mod_eq_of_lt (by omega)]
  omega
theorem u64_of {a : Int} (h : (Lit.int .u64 a).wf = true) : ∃ x : BitVec 64, a = (x.toNat : Int) := by
  simp [Lit.wf, IntKind.min, IntKind.max, IntKind.signed, IntKind.bits] at h
  refine ⟨BitVec.ofNat 64 a.toNat, ?_⟩
  rw [BitVec.toNat_ofNat, Nat.mod_eq_of_lt (by omega)]
  omega
theorem i64_of {a : Int} (h : (Lit.int .i64 a).wf = true) : -9223372036854775808 ≤ a ∧ a ≤ 9223372036854775807 := by
  simp [Lit.wf, IntKind.min, IntKind.max, IntKind.signed, IntKind.bits] at h
  omega
theorem row_of {w : World} {a : Option Addr} {len cap : Nat} {zs : List Int}
    (h : (a = none ∧ len = 0 ∧ cap = 0 ∧ zs = []) ∨ ∃ x, a = some x ∧ len ≤ cap ∧ cap ≤ maxLen ∧ zs.length = cap ∧ (∀ i, i < zs.length → w.cell? (x.add i) = some (.int .u8 (zs.getD i 0))) ∧ ∀ n ∈ zs, (Lit.int .u8 n).wf = true) :
    ∃ l : List UInt8, len ≤ cap ∧ cap ≤ maxLen ∧ Row w.heap.size w a len 1 (bts l) := by
  rcases h with ⟨rfl, rfl, rfl, rfl⟩ | ⟨x, rfl, hl, hm, hz, hc, hw⟩
  · exact ⟨[], Nat.le_refl _, Nat.zero_le _, Row.nil_⟩
  · have e : bts ((zs.take len).map fun n => UInt8.ofNat n.toNat) = (zs.take len).map (Value.int .u8) := by
      unfold bts
      rw [List.map_map]
      apply List.map_congr_left
      intro n hn
      have := u8_of (hw n (List.mem_of_mem_take hn))
      simp only [Function.comp, UInt8.toNat_ofNat']
      rw [show ((n.toNat % 2 ^ 8 : Nat) : Int) = n from by omega]
    refine ⟨(zs.take len).map fun n => UInt8.ofNat n.toNat, hl, hm, ?_⟩
    rw [e]
    refine ⟨by simp; omega, fun j hj => ?_⟩
    have hj' : j < zs.length := by simp at hj; omega
    have h1 := hc j hj'
    have h2 : w.cell? (x.add j) = some (((zs.take len).map (Value.int .u8))[j]) := by
      rw [h1]
      simp [List.getD, List.getElem?_eq_getElem hj']
    refine ⟨x, rfl, ?_, h2⟩
    have := World.block_lt_of_cell? w (x.add j) h2
    rwa [add_block] at this
theorem row64_of {w : World} {a : Option Addr} {len cap : Nat} {zs : List Int}
    (h : (a = none ∧ len = 0 ∧ cap = 0 ∧ zs = []) ∨ ∃ x, a = some x ∧ len ≤ cap ∧ cap ≤ maxLen ∧ zs.length = cap ∧ (∀ i, i < zs.length → w.cell? (x.add i) = some (.int .i64 (zs.getD i 0))) ∧ ∀ n ∈ zs, (Lit.int .i64 n).wf = true) :
    ∃ l : List Int, len ≤ cap ∧ cap ≤ maxLen ∧ Row w.heap.size w a len 1 (l.map (Value.int .i64)) ∧ ∀ n ∈ l, -9223372036854775808 ≤ n ∧ n ≤ 9223372036854775807 := by
  rcases h with ⟨rfl, rfl, rfl, rfl⟩ | ⟨x, rfl, hl, hm, hz, hc, hw⟩
  · exact ⟨[], Nat.le_refl _, Nat.zero_le _, Row.nil_, fun n hn => by simp at hn⟩
  · refine ⟨zs.take len, hl, hm, ⟨by simp; omega, fun j hj => ?_⟩, fun n hn => i64_of (hw n (List.mem_of_mem_take hn))⟩
    have hj' : j < zs.length := by simp at hj; omega
    have h2 : w.cell? (x.add j) = some (((zs.take len).map (Value.int .i64))[j]) := by
      rw [hc j hj']
      simp [List.getD, List.getElem?_eq_getElem hj']
    refine ⟨x, rfl, ?_, h2⟩
    have := World.block_lt_of_cell? w (x.add j) h2
    rwa [add_block] at this
end Go.Proofs.Ytfbollkafcdfhaa
