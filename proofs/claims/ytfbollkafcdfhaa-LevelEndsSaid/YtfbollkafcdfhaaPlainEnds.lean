/-
  Plain facts on how merging ends: no program.
-/
import Derived.Test.YtfbollkafcdfhaaMemF
namespace Go.Proofs.Ytfbollkafcdfhaa
open Go.RowKit

/-- A row of files that are all of level t. -/
structure AtLev (t : Nat) (tot : Int) (hs : List Hv) : Prop where
  lev : ∀ h ∈ hs, h.hd.level = (t : Int) ∧ 0 ≤ h.hd.len
  sum : sumE hs = tot
  one : 0 < t → hs.length = 1
  few : hs.length ≤ 30
  diff : Diff hs hs.length
theorem Begun.atLev {k : Nat} {hs : List Hv} (h : Begun k hs) (hk : k ≤ 30) : AtLev 0 (sumE hs) hs :=
  ⟨fun x hx => ⟨(h.lev x hx).1, by have := (h.lev x hx).2.1; omega⟩, rfl, fun h0 => absurd h0 (by omega), by rw [h.len]; exact hk, h.diff⟩
theorem sum_parts : ∀ hs : List Hv, (∀ h ∈ hs, 0 ≤ h.hd.len) → 0 ≤ sumE hs ∧ ∀ h ∈ hs, h.hd.len ≤ sumE hs
  | [], _ => ⟨by simp [sumE], fun _ h => absurd h (by simp)⟩
  | x :: l, h => by
    obtain ⟨h1, h2⟩ := sum_parts l (fun y hy => h y (List.mem_cons_of_mem _ hy))
    have h3 := h x List.mem_cons_self
    have e : sumE (x :: l) = x.hd.len + sumE l := by simp [sumE]
    rw [e]
    refine ⟨by omega, fun y hy => ?_⟩
    rcases List.mem_cons.1 hy with rfl | hy
    · omega
    · have := h2 y hy
      omega
theorem cnt_other {t : Nat} {hs : List Hv} {lv : Int} (h : ∀ x ∈ hs, x.hd.level = (t : Int)) (hne : lv ≠ (t : Int)) : cntL lv hs = 0 ∧ itmL lv hs = 0 := by
  have e : hs.filter (fun x => x.hd.level == lv) = [] := by
    rw [List.filter_eq_nil_iff]
    intro x hx hc
    rw [h x hx] at hc
    exact hne (by simpa using hc : (t : Int) = lv).symm
  simp [cntL, itmL, e]
theorem over_other {t : Nat} {hs : List Hv} {lv : Int} (h : ∀ x ∈ hs, x.hd.level = (t : Int)) (hne : lv ≠ (t : Int)) : overB hs lv = false := by
  obtain ⟨h1, h2⟩ := cnt_other h hne
  unfold overB
  by_cases h0 : lv = 0
  · subst h0
    rw [if_pos rfl, h1]
    rfl
  · rw [if_neg h0, h2]
    apply decide_eq_false
    split <;> omega
theorem itm_le_sum {t : Nat} : ∀ {hs : List Hv}, (∀ x ∈ hs, x.hd.level = (t : Int) ∧ 0 ≤ x.hd.len) → ((itmL (t : Int) hs : Nat) : Int) ≤ sumE hs
  | [], _ => by simp [itmL, sumE]
  | x :: l, h => by
    have h1 := itm_le_sum (fun y hy => h y (List.mem_cons_of_mem _ hy))
    obtain ⟨h2, h3⟩ := h x List.mem_cons_self
    have e : sumE (x :: l) = x.hd.len + sumE l := by simp [sumE]
    have e2 : itmL (t : Int) (x :: l) = x.hd.amt + itmL (t : Int) l := by simp [itmL, h2]
    have e3 := amt_eq x.hd
    rw [e, e2]
    omega
theorem AtLev.overs {t : Nat} {tot : Int} {hs : List Hv} (h : AtLev t tot hs) (ht : t ≤ 2) (htot : tot ≤ 1920) : overs hs 3 = [] ∨ (overs hs 3 = [(t : Int)] ∧ t < 2 ∧ overB hs (t : Int) = true) := by
  have hl : ∀ x ∈ hs, x.hd.level = (t : Int) := fun x hx => (h.lev x hx).1
  have o2 : t = 2 → overB hs 2 = false := by
    rintro rfl
    have := itm_le_sum (t := 2) h.lev
    rw [h.sum] at this
    have e : ((2 : Nat) : Int) = 2 := rfl
    rw [e] at this
    unfold overB
    rw [if_neg (by omega), if_neg (by omega)]
    apply decide_eq_false
    omega
  have oz : Go.Proofs.Ytfbollkafcdfhaa.overs hs 0 = [] := rfl
  rw [overs_succ, overs_succ, overs_succ, oz]
  rcases (by omega : t = 0 ∨ t = 1 ∨ t = 2) with rfl | rfl | rfl
  · rw [over_other (lv := ((1 : Nat) : Int)) hl (by omega), over_other (lv := ((2 : Nat) : Int)) hl (by omega)]
    cases hb : overB hs ((0 : Nat) : Int)
    · exact .inl rfl
    · exact .inr ⟨rfl, by omega, rfl⟩
  · rw [over_other (lv := ((0 : Nat) : Int)) hl (by omega), over_other (lv := ((2 : Nat) : Int)) hl (by omega)]
    cases hb : overB hs ((1 : Nat) : Int)
    · exact .inl rfl
    · exact .inr ⟨rfl, by omega, rfl⟩
  · rw [over_other (lv := ((0 : Nat) : Int)) hl (by omega), over_other (lv := ((1 : Nat) : Int)) hl (by omega), show overB hs ((2 : Nat) : Int) = false from o2 rfl]
    exact .inl rfl
theorem picks_of {hs : List Hv} {lv : Int} (h : ∀ i, i < hs.length → fromB hs lv i = true) : picks hs lv hs.length = hs.map fun h => h.hd.num := by
  have e : picks hs lv hs.length = (List.range hs.length).map (nm hs) := by
    unfold picks
    have : (List.range hs.length).filter (pickB hs lv) = List.range hs.length := by
      rw [List.filter_eq_self]
      intro i hi
      unfold pickB
      rw [h i (List.mem_range.1 hi)]
      rfl
    rw [this]
    rfl
  rw [e]
  conv => rhs; rw [← map_getD hs]
  rw [List.map_map]
  rfl
theorem AtLev.picks {t : Nat} {tot : Int} {hs : List Hv} (h : AtLev t tot hs) (ht : t < 2) : picks hs (t : Int) hs.length = hs.map fun h => h.hd.num := by
  apply picks_of
  intro i hi
  have hlev : (hs.getD i hv0).hd.level = (t : Int) := by
    rw [getD_lt _ _ hi]
    exact (h.lev _ (List.getElem_mem hi)).1
  unfold fromB
  rw [hlev]
  rcases (by omega : t = 0 ∨ t = 1) with rfl | rfl
  · simp
  · have h1 := h.one (by omega)
    obtain rfl : i = 0 := by omega
    have : firstAt hs ((1 : Nat) : Int) = 0 := by
      match hs, h1 with
      | [x], _ =>
        have hx := (h.lev x List.mem_cons_self).1
        simp [firstAt, List.findIdx_cons, hx]
    rw [this]
    simp
theorem AtLev.zero {tot : Int} {hs : List Hv} (h : AtLev 0 tot hs) (ho : Go.Proofs.Ytfbollkafcdfhaa.overs hs 3 = []) : hs.length < 4 := by
  have e : hs.filter (fun x => x.hd.level == 0) = hs := by
    rw [List.filter_eq_self]
    intro x hx
    rw [(h.lev x hx).1]
    rfl
  apply Classical.byContradiction
  intro hc
  have : overB hs ((0 : Nat) : Int) = true := by
    show overB hs 0 = true
    unfold overB cntL
    rw [if_pos rfl, e]
    exact decide_eq_true (by omega)
  have oz : Go.Proofs.Ytfbollkafcdfhaa.overs hs 0 = [] := rfl
  rw [overs_succ, overs_succ, overs_succ, oz, this] at ho
  simp at ho
theorem sum_take {hs : List Hv} {k : Nat} (hk : k < hs.length) : sumE (hs.take (k + 1)) = sumE (hs.take k) + hs[k].hd.len := by
  rw [take_next hk, sumE_snoc]
theorem sum_take_le {hs : List Hv} (h : ∀ x ∈ hs, 0 ≤ x.hd.len) (k : Nat) : 0 ≤ sumE (hs.take k) ∧ sumE (hs.take k) ≤ sumE hs := by
  have h1 := (sum_parts (hs.take k) (fun x hx => h x (List.mem_of_mem_take hx))).1
  have h2 := (sum_parts (hs.drop k) (fun x hx => h x (List.mem_of_mem_drop hx))).1
  have e : sumE (hs.take k ++ hs.drop k) = sumE (hs.take k) + sumE (hs.drop k) := by simp only [sumE, List.map_append, List.sum_append]
  rw [List.take_append_drop] at e
  omega
theorem after_all {hs : List Hv} {y : Hv} {lto : Int} : afterL hs (hs.map fun h => h.hd.num) lto [y] = [y.at_ lto] := by
  unfold afterL kept
  have : hs.filter (fun h => !decide (h.hd.num ∈ hs.map fun h => h.hd.num)) = [] := by
    rw [List.filter_eq_nil_iff]
    intro x hx
    simp
    exact ⟨x, hx, rfl⟩
  rw [this]
  rfl
theorem atLev_one {y : Hv} {t : Nat} (h0 : 0 ≤ y.hd.len) : AtLev t y.hd.len [y.at_ (t : Int)] := by
  refine ⟨fun x hx => ?_, by simp [sumE, Hv.at_], fun _ => rfl, by simp, fun i j hi hj => ?_⟩
  · obtain rfl := List.mem_singleton.1 hx
    exact ⟨rfl, h0⟩
  · simp at hi
    omega
end Go.Proofs.Ytfbollkafcdfhaa
