/-
  The walks of the levels: the row of those that are over, and whether none is.
-/
import Derived.Test.YtfbollkafcdfhaaLevelB
import Derived.Deep.LoopGhost
namespace Go.Proofs.Ytfbollkafcdfhaa
open Go.RowKit

def ints (l : List Int) : List Value := l.map (Value.int .i64)
theorem ints_length (l : List Int) : (ints l).length = l.length := by simp [ints]
theorem ints_append (a b : List Int) : ints (a ++ b) = ints a ++ ints b := by simp [ints]
theorem ints_one (l : List Int) : ∀ u ∈ ints l, u.oneCell' = true := by
  intro u hu
  simp only [ints, List.mem_map] at hu
  obtain ⟨c, _, rfl⟩ := hu
  rfl
def overs (l : List Hv) (k : Nat) : List Int := ((List.range k).filter fun (i : Nat) => overB l (i : Int)).map fun (i : Nat) => (i : Int)
theorem overs_succ (l : List Hv) (k : Nat) : overs l (k + 1) = overs l k ++ if overB l (k : Int) = true then [(k : Int)] else [] := by
  unfold overs
  rw [List.range_succ, List.filter_append, List.map_append]
  congr 1
  cases h : overB l (k : Int) <;> simp [h]
theorem overs_le (l : List Hv) (k : Nat) : (overs l k).length ≤ k := by
  unfold overs
  rw [List.length_map]
  exact Nat.le_trans (List.length_filter_le _ _) (by rw [List.length_range]; exact Nat.le_refl _)
/-- A row of numbers that a call hands back. -/
def Gives (l : List Int) (w : World) (v : Value) : Prop := ∃ A c, v = .slice A l.length c ∧ l.length ≤ c ∧ c ≤ maxLen ∧ Row w.heap.size w A l.length 1 (ints l)
/-- The row of numbers that the call owns. -/
def Owns (base : Nat) (l : List Int) (w : World) (v : Value) : Prop := w.ownsRow base 3 1 v l.length (ints l)
theorem Owns.gives {base : Nat} {l : List Int} {w : World} {v : Value} (h : Owns base l w v) : Gives l w v := by
  obtain ⟨A, c, rfl, h1, h2, _⟩ := own_form h
  exact ⟨A, c, rfl, h1, h2, Row.own h⟩
theorem info3_ : (Try.prog.info? 3).map (fun i => (i.zero, i.size, i.bytes)) = some (some (.int .i64 0), 1, 8) := by kernel_rfl

set_option maxHeartbeats 1000000 in
theorem overs_any (hs : List Hv) (A : Option Addr) (n c : Nat) (hn : n ≤ 1000) (w : World) (h : HRow w.heap.size w A n hs) :
    Calls Try.prog 15 #[.slice A n c] w fun e w' => (∃ v, e = .returned v ∧ Gives (overs hs 3) w' v) ∧ Below w.heap.size w w' := by
  obtain ⟨i0, hi0, hz0, hz1, hz2⟩ := info_parts info3_
  go_enter Try.func15, Try.ntmps15
  go_wp2
  go_loopw [3, 5] (fun v i wr => ∃ k : Nat, k ≤ 3 ∧ i = .int .i64 (k : Int) ∧ Owns w.heap.size (overs hs k) wr v ∧ Below w.heap.size w wr) (fun _ i _ => 3 - (intOf i).toNat)
  case atStart => exact ⟨0, Nat.zero_le _, rfl, World.ownsRow_nil w w.heap.size 3 1, Below.refl _ _⟩
  case round =>
    obtain ⟨k, hk, rfl, ho, hb⟩ := hrel
    obtain ⟨A1, c1, rfl, hlc, hcm, -⟩ := own_form ho
    by_cases hlt : k < 3
    · have hlt' : (k : Int) < 3 := by omega
      have e1 := overs_succ hs k
      have hle := overs_le hs k
      have hh := (h.below hb).up hb.size
      have E1 := Lib.hid e1
      clear e1
      cases hB : overB hs (k : Int)
      · have HB := Lib.hid hB
        clear hB
        go_wp2_with fail
        refine (over_any (k : Int) (by omega) (by omega) hs A n c hn _ hh).mono ?_
        rintro e w1 ⟨rfl, hb1⟩
        rw [HB.out]
        go_wp2
        go_roundw
        case rel => exact ⟨k + 1, hlt, by go_num, by rw [E1.out, HB.out, if_neg (by decide), List.append_nil]; exact own_below ho hb1, later_ hb hb1⟩
        case measure => simp [intOf]; omega
      · have HB := Lib.hid hB
        clear hB
        go_wp2_with fail
        refine (over_any (k : Int) (by omega) (by omega) hs A n c hn _ hh).mono ?_
        rintro e w1 ⟨rfl, hb1⟩
        rw [HB.out]
        have ho1 := own_below ho hb1
        have hz := later_ hb hb1
        go_wp2_with (at_builtin; refine stop_in ?_)
        refine stop_out (wpList_app rfl (.tmp 11) (.tmp 13) _ rfl w.heap.size 3 i0 _ 1 8 Try.underlying28 hi0 hz0 hz1 hz2 rfl (by omega) w (hz.alloc hz.size _) (by have := hz.size; simp; omega) _ _ _ rfl (ho1.alloc _) (w1.heap.size + 1) _ 1 1 (ints [(k : Int)]) rfl (Row.new w1 _ _ rfl) (ints_one _) _ _ rfl rfl (by unfold maxLen; omega) (by omega) ?_)
        intro A3 c3 w3 ho3 hb3 _ hc3 hm3
        go_wp2
        go_roundw
        case rel => exact ⟨k + 1, hlt, by go_num, by rw [E1.out, HB.out]; unfold Owns; rw [if_pos rfl, ints_append, List.length_append]; exact ho3, hb3⟩
        case measure => simp [intOf]; omega
    · obtain rfl : k = 3 := by omega
      go_wp2
      go_ret
      exact ⟨⟨_, rfl, ho.gives⟩, hb⟩

set_option maxHeartbeats 1000000 in
theorem done_any (hs : List Hv) (A : Option Addr) (n c : Nat) (hn : n ≤ 1000) (w : World) (h : HRow w.heap.size w A n hs) :
    Calls Try.prog 12 #[.slice A n c] w fun e w' => e = .returned (.bool (overs hs 3).isEmpty) ∧ Below w.heap.size w w' := by
  go_enter Try.func12, Try.ntmps12
  go_wp2_with fail
  refine (overs_any hs A n c hn _ h).mono ?_
  rintro e w1 ⟨⟨v, rfl, A1, c1, rfl, -⟩, hb1⟩
  go_wp2
  go_ret
  exact ⟨ret_eq (by cases overs hs 3 <;> simp; omega), hb1⟩
end Go.Proofs.Ytfbollkafcdfhaa
