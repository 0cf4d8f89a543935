/-
  The walks of the levels: which are over.
-/
import Derived.Test.YtfbollkafcdfhaaHelds
import Derived.Lib.Hide
import Derived.Lib.MinMax
import Derived.Outline
import Derived.BigQuiet
import Derived.Deep.RegionWith
import Derived.Deep.QuietTactic
namespace Go.Proofs.Ytfbollkafcdfhaa
open Go.RowKit

/-- What a file counts as, of a level. -/
def Hd.amt (h : Hd) : Nat := (min (max h.len 0) 2001).toNat
def cntL (lv : Int) (l : List Hv) : Nat := (l.filter fun h => h.hd.level == lv).length
def itmL (lv : Int) (l : List Hv) : Nat := ((l.filter fun h => h.hd.level == lv).map fun h => h.hd.amt).sum
def overB (l : List Hv) (lv : Int) : Bool := if lv = 0 then decide (4 ≤ cntL 0 l) else decide ((if lv = 1 then 200 else 2000) < itmL lv l)

theorem amt_le (h : Hd) : h.amt ≤ 2001 := by unfold Hd.amt; omega
theorem amt_eq (h : Hd) : ((h.amt : Nat) : Int) = min (max h.len 0) 2001 := by unfold Hd.amt; omega
theorem take_next {α : Type} {l : List α} {k : Nat} (hk : k < l.length) : l.take (k + 1) = l.take k ++ [l[k]] := List.take_succ_eq_append_getElem hk
theorem cntL_snoc (lv : Int) (l : List Hv) (x : Hv) : cntL lv (l ++ [x]) = cntL lv l + if x.hd.level = lv then 1 else 0 := by
  unfold cntL
  rw [List.filter_append]
  by_cases h : x.hd.level = lv <;> simp [h]
theorem itmL_snoc (lv : Int) (l : List Hv) (x : Hv) : itmL lv (l ++ [x]) = itmL lv l + if x.hd.level = lv then x.hd.amt else 0 := by
  unfold itmL
  rw [List.filter_append]
  by_cases h : x.hd.level = lv <;> simp [h]
theorem cntL_le (lv : Int) (l : List Hv) : cntL lv l ≤ l.length := List.length_filter_le _ _
theorem sum_le_of (m : Nat) : ∀ l : List Nat, (∀ x ∈ l, x ≤ m) → l.sum ≤ l.length * m
  | [], _ => by simp
  | x :: l, h => by
    have h1 := sum_le_of m l (fun y hy => h y (List.mem_cons_of_mem _ hy))
    have h2 := h x List.mem_cons_self
    rw [List.sum_cons, List.length_cons, Nat.add_mul, Nat.one_mul]
    omega
theorem itmL_le (lv : Int) (l : List Hv) : itmL lv l ≤ l.length * 2001 := by
  unfold itmL
  refine Nat.le_trans (sum_le_of 2001 _ ?_) (Nat.mul_le_mul_right _ (by rw [List.length_map]; exact List.length_filter_le _ _))
  intro x hx
  obtain ⟨y, _, rfl⟩ := List.mem_map.1 hx
  exact amt_le _
theorem bounds_any (w : World) : Calls Try.prog 29 #[] w fun e w' => e = .returned (.agg #[.int .i64 0, .int .i64 200, .int .i64 2000]) ∧ Below w.heap.size w w' := by
  go_enter Try.func29, Try.ntmps29
  go_wp2
  exact bodyPost_ret (v := .agg #[.int .i64 0, .int .i64 200, .int .i64 2000]) (by simp [results, go_sem]) rfl ⟨rfl, (Below.refl _ _).alloc (Nat.le_refl _) _⟩

set_option maxHeartbeats 1000000 in
theorem over_any (lv : Int) (hlv : 0 ≤ lv) (hlv2 : lv ≤ 2) (hs : List Hv) (A : Option Addr) (n c : Nat) (hn : n ≤ 1000) (w : World) (h : HRow w.heap.size w A n hs) :
    Calls Try.prog 24 #[.slice A n c, .int .i64 lv] w fun e w' => e = .returned (.bool (overB hs lv)) ∧ Below w.heap.size w w' := by
  go_enter Try.func24, Try.ntmps24
  go_wp2
  go_loopw [5, 6, 11] (fun x y i wr => ∃ k : Nat, k ≤ n ∧ x = .int .i64 ((cntL lv (hs.take k) : Nat) : Int) ∧ y = .int .i64 ((itmL lv (hs.take k) : Nat) : Int) ∧ i = .int .i64 (k : Int) ∧ Below w.heap.size w wr) (fun _ _ i _ => n - (intOf i).toNat)
  case atStart => exact ⟨0, Nat.zero_le _, by simp [cntL], by simp [itmL], rfl, Below.refl _ _⟩
  case round =>
    obtain ⟨k, hk, rfl, rfl, rfl, hb⟩ := hrel
    by_cases hlt : k < n
    · obtain ⟨a, hl, rfl, hat⟩ := (h.below hb).at_ hlt
      have e1 := cntL_snoc lv (hs.take k) hs[k]
      have e2 := itmL_snoc lv (hs.take k) hs[k]
      rw [← take_next hl] at e1 e2
      have b1 := Nat.le_trans (cntL_le lv (hs.take k)) (List.length_take_le _ _)
      have b2 := Nat.le_trans (itmL_le lv (hs.take k)) (Nat.mul_le_mul_right _ (List.length_take_le _ _))
      generalize hs[k] = x at *
      generalize itmL lv (hs.take k) = Y at *
      generalize cntL lv (hs.take k) = X at *
      obtain ⟨hbk, c0, c1, c2, c3, c4⟩ := hat
      by_cases hx : x.hd.level = lv
      · subst hx
        rw [if_pos rfl] at e1 e2
        have E1 := Lib.hid e1
        have E2 := Lib.hid e2
        clear e1 e2
        have b3 := amt_le x.hd
        have b4 := amt_eq x.hd
        have b5 : 0 ≤ min (max x.hd.len 0) 2001 := by omega
        have b6 : min (max x.hd.len 0) 2001 ≤ 2001 := by omega
        have B4 := Lib.hid b4
        clear b4
        have i2 : ∀ w, (Instr.index 50 (.agg #[.int .i64 0, .int .i64 200, .int .i64 2000]) (.int .i64 2)).run Try.prog w = .ok (.int .i64 2000) w := fun _ => by kernel_rfl
        go_wp2_with fail
        go_region_with (go_at_call 29; refine (bounds_any _).mono ?_; rintro e w1 ⟨rfl, hb1⟩; have hq : w1.cell? ⟨wr.heap.size, 4, none⟩ = some (.int .i64 x.hd.len) := by (rw [hb1.cell (by simp)]; rw [World.cell?_drew, World.cell?_alloc_at _ _ _ _ rfl]; rfl))
        all_goals
          have hz : Below w.heap.size w w1 := later_ (below_drew (hb.alloc hb.size _)) hb1
          clear hb1 hq
          go_wp2
          go_roundw
          case rel => exact ⟨k + 1, hlt, by rw [E1.out]; rfl, by rw [E2.out, Int.natCast_add, B4.out], by go_num, hz⟩
          case measure => simp [intOf]; omega
      · have hx' : (x.hd.level == lv) = false := beq_eq_false_iff_ne.2 hx
        rw [if_neg hx] at e1 e2
        have E1 := Lib.hid e1
        have E2 := Lib.hid e2
        clear e1 e2
        go_wp2_with fail
        go_roundw
        case rel => exact ⟨k + 1, hlt, by rw [E1.out]; rfl, by rw [E2.out]; rfl, by go_num, hb.alloc hb.size _⟩
        case measure => simp [intOf]; omega
    · have e : k = n := by omega
      subst e
      have hl := h.len
      rw [List.take_of_length_le (by omega)]
      have i1 : ∀ w, (Instr.index 50 (.agg #[.int .i64 0, .int .i64 200, .int .i64 2000]) (.int .i64 1)).run Try.prog w = .ok (.int .i64 200) w := fun _ => by kernel_rfl
      have i2 : ∀ w, (Instr.index 50 (.agg #[.int .i64 0, .int .i64 200, .int .i64 2000]) (.int .i64 2)).run Try.prog w = .ok (.int .i64 2000) w := fun _ => by kernel_rfl
      rcases (by omega : lv = 0 ∨ lv = 1 ∨ lv = 2) with rfl | rfl | rfl
      · go_wp2
        go_ret
        exact ⟨ret_eq (by simp [overB]; omega), hb⟩
      · go_wp2_with fail
        refine (bounds_any _).mono ?_
        rintro e w1 ⟨rfl, hb1⟩
        go_wp2
        go_ret
        exact ⟨ret_eq (by simp [overB]; omega), hb.trans (hb1.mono hb.size)⟩
      · go_wp2_with fail
        refine (bounds_any _).mono ?_
        rintro e w1 ⟨rfl, hb1⟩
        go_wp2
        go_ret
        exact ⟨ret_eq (by simp [overB]; omega), hb.trans (hb1.mono hb.size)⟩
end Go.Proofs.Ytfbollkafcdfhaa
