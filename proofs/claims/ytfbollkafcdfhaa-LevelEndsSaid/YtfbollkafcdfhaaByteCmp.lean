/-
  The library's comparison of two rows of bytes: what it tells hangs on the rows alone.
-/
import Derived.Test.YtfbollkafcdfhaaMem
import Derived.Lib.BytesEntry
namespace Go.Proofs.Ytfbollkafcdfhaa
open Go Go.RowKit

theorem bytesOf_back (l : List UInt8) : Lib.bytesOf (l.map fun c => (c.toNat : Int)) = l := by
  unfold Lib.bytesOf
  rw [List.map_map]
  conv => rhs; rw [← List.map_id l]
  apply List.map_congr_left
  intro c _
  simp
theorem run_bytesOf_row {P : Program} {B n : Nat} {w : World} {A : Option Addr} {l : List UInt8} (h : Row B w A n 1 (bts l)) (c : Nat) : (Extern.Bytes.bytesOf (.slice A n c)).run P w = .ok ⟨l.toArray⟩ w := by
  have hl := h.btlen
  rcases A with _ | a
  · have hn : n = 0 := by
      rcases Nat.eq_zero_or_pos n with h0 | h0
      · exact h0
      · obtain ⟨_, _, he, _⟩ := h.bt h0
        cases he
    subst hn
    obtain rfl := List.eq_nil_of_length_eq_zero hl
    rfl
  · have hx := Lib.run_loadBytesX (P := P) w (l.map fun c => (c.toNat : Int)) a .empty (fun j x hj => by
      have hjl : j < l.length := by simpa using (List.getElem?_eq_some_iff.1 hj).1
      obtain ⟨a', hl', he, _, hc⟩ := h.bt (show j < n by omega)
      obtain rfl : a = a' := by simpa using he
      rw [hc]
      rw [List.getElem?_map, List.getElem?_eq_getElem hl'] at hj
      simpa using hj)
    rw [bytesOf_back, List.length_map, hl] at hx
    show (Extern.Bytes.loadBytes a n .empty).run P w = _
    rw [hx]
    congr 1
    apply ByteArray.ext
    show (#[] : Array UInt8) ++ l.toArray = l.toArray
    simp
theorem run_compare_rows {P : Program} {B B' n m : Nat} {w : World} {A A' : Option Addr} {l l' : List UInt8} (h : Row B w A n 1 (bts l)) (h' : Row B' w A' m 1 (bts l')) (c d : Nat) :
    (Extern.BytealgCompare.compare #[.slice A n c, .slice A' m d]).run P w = .ok (.int .i64 (Lib.compareBytes l l')) w := by
  change Sem.run P (do pure (goInt (Extern.BytealgCompare.cmp (← Extern.Bytes.bytesOf (.slice A n c)) (← Extern.Bytes.bytesOf (.slice A' m d))))) w = _
  simp only [Sem.run_bind, run_bytesOf_row h, run_bytesOf_row h', Sem.run_pure, Result.andThen]
  rw [Lib.cmp_eq]
  rfl
end Go.Proofs.Ytfbollkafcdfhaa
