/-
  The walks of the levels: what Pick asks of each file (its two closures), and the first that is of the level.
-/
import Derived.Test.YtfbollkafcdfhaaLevelC
namespace Go.Proofs.Ytfbollkafcdfhaa
open Go.RowKit

def hv0 : Hv := ⟨⟨0, 0, [], [], 0⟩, none, 0, 0, none, 0, 0⟩
def firstAt (hs : List Hv) (lv : Int) : Nat := hs.findIdx fun h => h.hd.level == lv
def fromB (hs : List Hv) (lv : Int) (i : Nat) : Bool := (hs.getD i hv0).hd.level == lv && (lv == 0 || i == firstAt hs lv)
theorem getD_lt {α : Type} (l : List α) (d : α) {i : Nat} (h : i < l.length) : l.getD i d = l[i] := by simp [List.getD, List.getElem?_eq_getElem h]

set_option maxHeartbeats 1000000 in
theorem is_any (x : Hv) (p : Addr) (lv : Int) (w : World) (hc : w.cell? p = some (.int .i64 lv)) :
    Calls Try.prog 21 #[.agg #[.int .i64 x.hd.num, .int .i64 x.hd.level, .slice x.fa x.fn x.fc, .slice x.la x.ln x.lc, .int .i64 x.hd.len], .pointer (some p)] w fun e w' => e = .returned (.bool (x.hd.level == lv)) ∧ Below w.heap.size w w' := by
  have hc1 : ∀ o, (w.alloc o).cell? p = some (.int .i64 lv) := fun o => (World.cell?_alloc_lt w o p (World.block_lt_of_cell? w p hc)).trans hc
  go_enter Try.func21, Try.ntmps21
  go_wp2
  go_ret
  exact ⟨rfl, (Below.refl _ _).alloc (Nat.le_refl _) _⟩

set_option maxHeartbeats 1000000 in
theorem from_any (hs : List Hv) (A : Option Addr) (n c : Nat) (p1 p2 p3 : Addr) (lv : Int) (i : Nat) (w : World) (h : Helds w.heap.size w A n hs) (hi : i < n)
    (h1 : w.cell? p1 = some (.slice A n c)) (h2 : w.cell? p2 = some (.int .i64 lv)) (h3 : w.cell? p3 = some (.int .i64 (firstAt hs lv : Int))) (hf : firstAt hs lv < n) :
    Calls Try.prog 22 #[.int .i64 (i : Int), .pointer (some p1), .pointer (some p2), .pointer (some p3)] w fun e w' => e = .returned (.bool (fromB hs lv i)) ∧ Below w.heap.size w w' := by
  obtain ⟨a, hl, rfl, ⟨hbk, c0, c1, c2, c3, c4⟩, hok⟩ := h.at_ hi
  have hx := getD_lt hs hv0 hl
  have HX := Lib.hid hx
  clear hx
  generalize hs[i] = x at *
  have fin : ∀ b k, b = fromB hs lv i → Ending.returned (.bool b) = Ending.returned (.bool (fromB hs lv i)) ∧ Below w.heap.size w (w.drewN k) := fun b k e => ⟨by rw [e], below_drewN (Below.refl _ _) k⟩
  by_cases e1 : x.hd.level = lv
  · by_cases e2 : lv = 0
    · have r : true = fromB hs lv i := by unfold fromB; rw [HX.out, e1, e2]; rfl
      have R := Lib.hid r
      clear r
      subst e1
      rw [e2] at c1 h2
      have E2 := Lib.hid e2
      clear e2
      go_enter Try.func22, Try.ntmps22
      go_wp2
      go_quiet (fail)
      go_wp2
      go_ret
      exact fin _ _ R.out
    · by_cases e3 : i = firstAt hs lv
      · have r : true = fromB hs lv i := by unfold fromB; rw [HX.out, e1, ← e3]; simp
        have R := Lib.hid r
        clear r
        subst e1
        rw [← e3] at h3
        have e4 : (x.hd.level == 0) = false := beq_eq_false_iff_ne.2 e2
        clear e3 hf
        go_enter Try.func22, Try.ntmps22
        go_wp2
        go_quiet (fail)
        go_wp2
        go_ret
        exact fin _ _ R.out
      · have r : false = fromB hs lv i := by unfold fromB; rw [HX.out]; simp [e1, e2, e3]
        have R := Lib.hid r
        clear r
        subst e1
        have e4 : (x.hd.level == 0) = false := beq_eq_false_iff_ne.2 e2
        generalize firstAt hs x.hd.level = F at *
        have e5 : ((i : Int) == (F : Int)) = false := beq_eq_false_iff_ne.2 (by omega)
        go_enter Try.func22, Try.ntmps22
        go_wp2
        go_quiet (fail)
        go_wp2
        go_ret
        exact fin _ _ R.out
  · have r : false = fromB hs lv i := by unfold fromB; rw [HX.out]; simp [e1]
    have R := Lib.hid r
    clear r
    have e4 : (x.hd.level == lv) = false := beq_eq_false_iff_ne.2 e1
    go_enter Try.func22, Try.ntmps22
    go_wp2
    go_quiet (fail)
    go_wp2
    go_ret
    exact fin _ _ R.out

set_option maxHeartbeats 1000000 in
theorem first_any (hs : List Hv) (A : Option Addr) (n c : Nat) (hn : n ≤ 1000) (p : Addr) (lv : Int) (w : World) (h : Helds w.heap.size w A n hs) (hc : w.cell? p = some (.int .i64 lv)) (hf : firstAt hs lv < n) :
    Calls Try.prog 20 #[.slice A n c, .func (.func 21) #[] #[.pointer (some p)]] w fun e w' => e = .returned (.int .i64 (firstAt hs lv : Int)) ∧ Below w.heap.size w w' := by
  go_enter Try.func20, Try.ntmps20
  go_wp2
  go_loopw [8] (fun i wr => ∃ k : Nat, k ≤ firstAt hs lv ∧ i = .int .i64 (k : Int) ∧ Below w.heap.size w wr) (fun i _ => n - (intOf i).toNat)
  case atStart => exact ⟨0, Nat.zero_le _, rfl, Below.refl _ _⟩
  case round =>
    obtain ⟨k, hk, rfl, hb⟩ := hrel
    have hlt : k < n := by omega
    obtain ⟨a, hl, rfl, ⟨hbk, c0, c1, c2, c3, c4⟩, hok⟩ := (h.below hb).at_ hlt
    have hcr : wr.cell? p = some (.int .i64 lv) := (hb.cell (World.block_lt_of_cell? w p hc)).trans hc
    by_cases e : k < firstAt hs lv
    · have e1 : (hs[k].hd.level == lv) = false := by simpa [firstAt] using List.not_of_lt_findIdx e
      generalize hs[k] = x at *
      generalize firstAt hs lv = F at *
      go_wp2_with fail
      refine (is_any x p lv _ hcr).mono ?_
      rintro e w1 ⟨rfl, hb1⟩
      rw [e1]
      go_wp2
      go_roundw
      case rel => exact ⟨k + 1, by omega, by go_num, later_ hb hb1⟩
      case measure => simp [intOf]; omega
    · have ek : k = firstAt hs lv := by omega
      have e1 : (hs[k].hd.level == lv) = true := by
        subst ek
        exact List.findIdx_getElem (p := fun h : Hv => h.hd.level == lv) (xs := hs) (w := hl)
      have EK := Lib.hid ek
      clear ek hk hf e
      generalize hs[k] = x at *
      go_wp2_with fail
      refine (is_any x p lv _ hcr).mono ?_
      rintro e w1 ⟨rfl, hb1⟩
      rw [e1]
      go_wp2
      go_ret
      exact ⟨ret_eq (by rw [← EK.out]; rfl), later_ hb hb1⟩
end Go.Proofs.Ytfbollkafcdfhaa
