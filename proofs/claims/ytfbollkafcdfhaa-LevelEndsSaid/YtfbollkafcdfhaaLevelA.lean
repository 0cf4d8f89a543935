/-
  The walks of the levels: bytes.Compare, level.Touch.
-/
import Derived.Test.YtfbollkafcdfhaaRows
import Derived.Test.YtfbollkafcdfhaaByteCmp
import Derived.Test.YtfbollkafcdfhaaBits
import Derived.WalkKit
import Derived.WalkSpells
import Derived.WalkLawsBesides
import Derived.Laws.Externs
namespace Go.Proofs.Ytfbollkafcdfhaa
open Go.RowKit

theorem call_compare {B B' n m c d : Nat} {A A' : Option Addr} {l l' : List UInt8} {w : World} (h : Row B w A n 1 (bts l)) (h' : Row B' w A' m 1 (bts l')) :
    (callFunc 28 #[.slice A n c, .slice A' m d]).run Try.prog w = .ok (.value (.int .i64 (Lib.compareBytes l l'))) w := by
  rw [run_callFunc_extern Try.func28 (by kernel_rfl) (by kernel_rfl) (by kernel_rfl) (e := Extern.BytealgCompare.compare) (by kernel_rfl), run_compare_rows h h' c d]
  rfl
theorem compare_any {B B' n m c d : Nat} {A A' : Option Addr} {l l' : List UInt8} (w : World) (h : Row B w A n 1 (bts l)) (h' : Row B' w A' m 1 (bts l')) :
    Calls Try.prog 23 #[.slice A n c, .slice A' m d] w fun e w' => e = .returned (.int .i64 (Lib.compareBytes l l')) ∧ w = w' := by
  have hc := call_compare (c := c) (d := d) h h'
  go_enter Try.func23, Try.ntmps23
  go_wp2
  go_ret
  exact ⟨rfl, rfl⟩

/-- A file, as the levels see it. -/
structure Hd where
  num : Int
  level : Int
  first : List UInt8
  last : List UInt8
  len : Int
def Hd.touch (a b : Hd) : Bool := a.len != 0 && b.len != 0 && decide (Lib.compareBytes a.first b.last ≤ 0) && decide (Lib.compareBytes b.first a.last ≤ 0)

set_option maxHeartbeats 1000000 in
theorem touch_any (a b : Hd) (A1 A2 B1 B2 : Option Addr) (n1 c1 n2 c2 m1 d1 m2 d2 : Nat) (w : World)
    (h1 : Row w.heap.size w A1 n1 1 (bts a.first)) (h2 : Row w.heap.size w A2 n2 1 (bts a.last)) (h3 : Row w.heap.size w B1 m1 1 (bts b.first)) (h4 : Row w.heap.size w B2 m2 1 (bts b.last)) :
    Calls Try.prog 13 #[.agg #[.int .i64 a.num, .int .i64 a.level, .slice A1 n1 c1, .slice A2 n2 c2, .int .i64 a.len], .agg #[.int .i64 b.num, .int .i64 b.level, .slice B1 m1 d1, .slice B2 m2 d2, .int .i64 b.len]] w fun e w' => e = .returned (.bool (a.touch b)) ∧ Below w.heap.size w w' := by
  go_enter Try.func13, Try.ntmps13
  by_cases ha : a.len = 0
  · go_wp2
    go_ret
    exact ⟨ret_eq (by simp [Hd.touch, ha]), ((Below.refl _ _).alloc (Nat.le_refl _) _).alloc (by simp) _⟩
  · by_cases hb : b.len = 0
    · go_wp2
      go_ret
      exact ⟨ret_eq (by simp [Hd.touch, hb]), ((Below.refl _ _).alloc (Nat.le_refl _) _).alloc (by simp) _⟩
    · go_wp2_with fail
      have g0 : Below w.heap.size w ((w.alloc (.cells #[.int .i64 a.num, .int .i64 a.level, .slice A1 n1 c1, .slice A2 n2 c2, .int .i64 a.len] 27)).alloc (.cells #[.int .i64 b.num, .int .i64 b.level, .slice B1 m1 d1, .slice B2 m2 d2, .int .i64 b.len] 27)) := ((Below.refl _ _).alloc (Nat.le_refl _) _).alloc (by simp) _
      refine (compare_any _ (h1.below g0) (h4.below g0)).mono ?_
      rintro e w1 ⟨rfl, hw1⟩
      rw [hw1] at g0
      have q1 : w1.cell? ⟨w.heap.size + 1, 2, none⟩ = some (.slice B1 m1 d1) := by rw [← hw1, World.cell?_alloc_at _ _ _ _ (by simp)]; rfl
      have q2 : w1.cell? ⟨w.heap.size, 3, none⟩ = some (.slice A2 n2 c2) := by rw [← hw1, World.cell?_alloc_past _ _ _ (by simp), World.cell?_alloc_at _ _ _ _ rfl]; rfl
      clear hw1
      by_cases hx : Lib.compareBytes a.first b.last ≤ 0
      · go_wp2_with fail
        refine (compare_any _ (h3.below g0) (h2.below g0)).mono ?_
        rintro e w2 ⟨rfl, rfl⟩
        go_wp2
        go_ret
        exact ⟨ret_eq (by simp [Hd.touch, hx]), g0⟩
      · go_wp2
        go_ret
        exact ⟨ret_eq (by simp [Hd.touch, ha, hb]; omega), g0⟩
end Go.Proofs.Ytfbollkafcdfhaa
