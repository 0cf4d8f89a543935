/-
  Plain facts on what Pick picks: no program.
-/
import Derived.Test.YtfbollkafcdfhaaLevelM
namespace Go.Proofs.Ytfbollkafcdfhaa
open Go.RowKit

def nm (hs : List Hv) (i : Nat) : Int := (hs.getD i hv0).hd.num
def idx (hs : List Hv) (lv : Int) : List Nat := (List.range hs.length).filter (pickB hs lv)
theorem picks_idx (hs : List Hv) (lv : Int) : picks hs lv hs.length = (idx hs lv).map (nm hs) := rfl
/-- No two files of the first k have one number. -/
def Diff (hs : List Hv) (k : Nat) : Prop := ∀ i j, i < k → j < i → nm hs j ≠ nm hs i
theorem Diff.inj {hs : List Hv} {k : Nat} (h : Diff hs k) {i j : Nat} (hi : i < k) (hj : j < k) (e : nm hs i = nm hs j) : i = j := by
  rcases Nat.lt_trichotomy i j with h1 | h1 | h1
  · exact absurd e (h j i hj h1)
  · exact h1
  · exact absurd e.symm (h i j hi h1)
theorem idx_lt {hs : List Hv} {lv : Int} {i : Nat} (h : i ∈ idx hs lv) : i < hs.length := List.mem_range.1 (List.mem_filter.1 h).1
theorem idx_pick {hs : List Hv} {lv : Int} {i : Nat} (h : i ∈ idx hs lv) : pickB hs lv i = true := (List.mem_filter.1 h).2
theorem idx_nodup (hs : List Hv) (lv : Int) : (idx hs lv).Nodup := List.Nodup.sublist List.filter_sublist List.nodup_range
theorem idx_ne {hs : List Hv} {lv : Int} {j k : Nat} (hj : j < k) (hk : k < (idx hs lv).length) : (idx hs lv)[j] ≠ (idx hs lv)[k] := by
  have := List.pairwise_iff_getElem.1 (idx_nodup hs lv) j k (by omega) hk hj
  exact this
/-- The files of the upper level among the first k that are picked. -/
def ups (hs : List Hv) (lv : Int) (k : Nat) : List Hv := (((idx hs lv).take k).filter (fromB hs lv)).map fun i => hs.getD i hv0
theorem ups_succ {hs : List Hv} {lv : Int} {k : Nat} (hk : k < (idx hs lv).length) : ups hs lv (k + 1) = ups hs lv k ++ if fromB hs lv (idx hs lv)[k] = true then [hs.getD (idx hs lv)[k] hv0] else [] := by
  unfold ups
  rw [take_next hk, List.filter_append, List.map_append]
  congr 1
  cases h : fromB hs lv (idx hs lv)[k] <;> simp [h]
theorem ups_le (hs : List Hv) (lv : Int) (k : Nat) : (ups hs lv k).length ≤ hs.length := by
  unfold ups
  rw [List.length_map]
  refine Nat.le_trans (List.length_filter_le _ _) (Nat.le_trans (List.length_take_le' _ _) ?_)
  unfold idx
  exact Nat.le_trans (List.length_filter_le _ _) (by rw [List.length_range]; exact Nat.le_refl _)
theorem ups_all (hs : List Hv) (lv : Int) : ups hs lv (idx hs lv).length = ((List.range hs.length).filter (fromB hs lv)).map fun i => hs.getD i hv0 := by
  unfold ups
  rw [List.take_length]
  unfold idx
  rw [List.filter_filter]
  congr 1
  apply List.filter_congr
  intro i _
  cases h : fromB hs lv i <;> simp [pickB, h]
theorem ups_mem {hs : List Hv} {lv : Int} {k : Nat} {x : Hv} (h : x ∈ ups hs lv k) : x ∈ hs := by
  unfold ups at h
  obtain ⟨i, hi, rfl⟩ := List.mem_map.1 h
  have := idx_lt (List.mem_of_mem_take (List.mem_filter.1 hi).1)
  rw [getD_lt _ _ this]
  exact List.getElem_mem this
theorem fromB_level {hs : List Hv} {lv : Int} {i : Nat} (h : fromB hs lv i = true) : (hs.getD i hv0).hd.level = lv := by
  unfold fromB at h
  rw [Bool.and_eq_true] at h
  simpa using h.1
theorem pickB_level {hs : List Hv} {lv : Int} {i : Nat} (h : pickB hs lv i = true) (h2 : fromB hs lv i = false) : (hs.getD i hv0).hd.level = lv + 1 := by
  unfold pickB at h
  rw [h2, Bool.false_or, Bool.and_eq_true] at h
  simpa using h.1
theorem map_getD (hs : List Hv) : (List.range hs.length).map (fun i => hs.getD i hv0) = hs := by
  apply List.ext_getElem
  · simp
  · intro i h1 h2
    simp [List.getElem?_eq_getElem h2]
theorem ups_zero {hs : List Hv} (h : overB hs 0 = true) : 4 ≤ (ups hs 0 (idx hs 0).length).length := by
  rw [ups_all, List.length_map]
  have e : fromB hs 0 = fun i => (fun x : Hv => x.hd.level == 0) (hs.getD i hv0) := by
    funext i
    simp [fromB]
  rw [e]
  have h2 : ((List.range hs.length).filter fun i => (fun x : Hv => x.hd.level == 0) (hs.getD i hv0)).length = (hs.filter fun x => x.hd.level == 0).length := by
    conv => rhs; rw [← map_getD hs]
    rw [List.filter_map, List.length_map]
    rfl
  rw [h2]
  unfold overB cntL at h
  rw [if_pos rfl] at h
  exact of_decide_eq_true h
theorem filter_one : ∀ (n f : Nat) (p : Nat → Bool), f < n → (∀ i, i < n → (p i = true ↔ i = f)) → ((List.range n).filter p).length = 1
  | 0, f, p, h, _ => by omega
  | n + 1, f, p, h, hp => by
    rw [List.range_succ, List.filter_append, List.length_append]
    by_cases hf : f = n
    · have h1 : (List.range n).filter p = [] := by
        rw [List.filter_eq_nil_iff]
        intro i hi hc
        have := (hp i (by have := List.mem_range.1 hi; omega)).1 hc
        have := List.mem_range.1 hi
        omega
      have h2 : p n = true := (hp n (by omega)).2 hf.symm
      simp [h1, h2]
    · have h2 : p n = false := by
        rw [Bool.eq_false_iff]
        intro hc
        exact hf ((hp n (by omega)).1 hc).symm
      have := filter_one n f p (by omega) (fun i hi => hp i (by omega))
      simp [h2, this]
theorem ups_one {hs : List Hv} {lv : Int} (h0 : 0 < lv) (hf : firstAt hs lv < hs.length) : (ups hs lv (idx hs lv).length).length = 1 := by
  rw [ups_all, List.length_map]
  refine filter_one _ (firstAt hs lv) _ hf (fun i hi => ?_)
  have l0 : (lv == 0) = false := beq_eq_false_iff_ne.2 (by omega)
  constructor
  · intro h
    unfold fromB at h
    rw [l0, Bool.and_eq_true] at h
    simpa using h.2
  · rintro rfl
    have e1 : ((hs[firstAt hs lv]).hd.level == lv) = true := List.findIdx_getElem (p := fun h : Hv => h.hd.level == lv) (xs := hs) (w := hf)
    unfold fromB
    rw [getD_lt hs hv0 hf, e1]
    simp
theorem ups_touch {hs : List Hv} {lv : Int} (x : Hv) : (ups hs lv (idx hs lv).length).any (fun f => f.hd.touch x.hd) = touchedTo hs lv x hs.length := by
  rw [ups_all, List.any_map, List.any_filter]
  unfold touchedTo
  apply congrArg (fun f => (List.range hs.length).any f)
  funext j
  simp only [Function.comp]
  rw [touch_comm]
theorem mem_picks {hs : List Hv} {lv : Int} (hd : Diff hs hs.length) {i : Nat} (hi : i < hs.length) : decide (nm hs i ∈ picks hs lv hs.length) = pickB hs lv i := by
  rw [picks_idx]
  cases h : pickB hs lv i
  · rw [decide_eq_false]
    intro hm
    obtain ⟨j, hj, e⟩ := List.mem_map.1 hm
    obtain rfl := hd.inj (idx_lt hj) hi e
    have := idx_pick hj
    rw [h] at this
    cases this
  · rw [decide_eq_true]
    exact List.mem_map.2 ⟨i, List.mem_filter.2 ⟨List.mem_range.2 hi, h⟩, rfl⟩
theorem want_has {hs : List Hv} {lv : Int} (hd : Diff hs hs.length) {i : Nat} (hi : i < hs.length) (hl : hs[i].hd.level = lv + 1) :
    (ups hs lv (idx hs lv).length).any (fun f => f.hd.touch hs[i].hd) = decide (hs[i].hd.num ∈ picks hs lv hs.length) := by
  have e : hs[i].hd.num = nm hs i := by unfold nm; rw [getD_lt hs hv0 hi]
  rw [ups_touch, e, mem_picks hd hi]
  have hfr : fromB hs lv i = false := by
    unfold fromB
    rw [getD_lt hs hv0 hi, show (hs[i].hd.level == lv) = false from beq_eq_false_iff_ne.2 (by omega)]
    rfl
  unfold pickB
  rw [hfr, getD_lt hs hv0 hi, hl]
  simp
end Go.Proofs.Ytfbollkafcdfhaa
