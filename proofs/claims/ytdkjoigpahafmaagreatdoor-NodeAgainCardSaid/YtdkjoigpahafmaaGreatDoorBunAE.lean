/- Texts ItemA, PlainSkip, SkipA, SkipB, SkipC, SkipE in one. No conditions. -/
import Derived.Test.YtdkjoigpahafmaaGreatDoorBunAA
import Derived.Test.YtdkjoigpahafmaaGreatDoorBunAD
import Derived.Test.YtdkjoigpahafmaaGreatDoorRows
import Derived.BigQuiet
import Derived.Lib.Hide
import Derived.WalkKit
import Derived.WalkSpells
import Derived.WalkLawsBesides
import Derived.Deep.RegionWith
import Derived.Lib.MinMax
import Derived.Tactics
import Derived.Tactics2
import Derived.Laws.Pointers
import Derived.Laws.LoneSync
import Derived.Laws.NewBlocks
import Derived.Deep.RegionHeld3

set_option linter.unusedSimpArgs false
set_option linter.unusedVariables false
set_option maxRecDepth 100000
set_option maxHeartbeats 16000000
namespace Go.Proofs.YtdkjoigpahafmaaGreatDoor
section
open Go Go.RowKit
theorem iless_any (a b : It) (w : World) : Calls Tryz.prog 139 #[a.val, b.val] w fun e w' => e = .returned (.bool (a.less b)) ∧ Below w.heap.size w w' := by
 obtain ⟨s1, k1, t1, v1, x1⟩ := a
 obtain ⟨s2, k2, t2, v2, x2⟩ := b
 have hb0 := ((Below.refl w.heap.size w).alloc (Nat.le_refl _) (.cells #[.int .i64 s1, .int .i64 k1, .int .u64 (t1 : Int), .int .u64 (v1 : Int), .int .i64 x1] 27)).alloc (by simp) (.cells #[.int .i64 s2, .int .i64 k2, .int .u64 (t2 : Int), .int .u64 (v2 : Int), .int .i64 x2] 27)
 obtain ⟨r, hr⟩ : ∃ r, r = It.less ⟨s1, k1, t1, v1, x1⟩ ⟨s2, k2, t2, v2, x2⟩ := ⟨_, rfl⟩
 rw [← hr]
 unfold It.less at hr
 unfold It.val
 simp only at hr ⊢
 by_cases h1 : s1 = s2
 ·subst h1
  by_cases h2 : k1 = k2
  ·subst h2
   by_cases h3 : (t1 : Int) < (t2 : Int)
   ·have h4 : t1 < t2 := by omega
    have HB := Lib.hid (hr.trans (show _ = true by simp [h4]))
    clear hr
    go_enter Tryz.func139, Tryz.ntmps139
    go_wp2
    go_ret
    exact ⟨ret_bo HB.out.symm, hb0⟩
   ·have h4 : ¬ t1 < t2 := by omega
    have HB := Lib.hid (hr.trans (show _ = false by simp [h4]))
    clear hr
    go_enter Tryz.func139, Tryz.ntmps139
    go_wp2
    go_ret
    exact ⟨ret_bo HB.out.symm, hb0⟩
  ·have e2 : (k1 == k2) = false := by simpa using h2
   by_cases h3 : k1 < k2
   ·have HB := Lib.hid (hr.trans (show _ = true by simp [h2, h3]))
    clear hr
    go_enter Tryz.func139, Tryz.ntmps139
    go_wp2
    go_ret
    exact ⟨ret_bo HB.out.symm, hb0⟩
   ·have HB := Lib.hid (hr.trans (show _ = false by simp [h2, h3]))
    clear hr
    go_enter Tryz.func139, Tryz.ntmps139
    go_wp2
    go_ret
    exact ⟨ret_bo HB.out.symm, hb0⟩
 ·have e1 : (s1 == s2) = false := by simpa using h1
  by_cases h3 : s1 < s2
  ·have HB := Lib.hid (hr.trans (show _ = true by simp [h1, h3]))
   clear hr
   go_enter Tryz.func139, Tryz.ntmps139
   go_wp2
   go_ret
   exact ⟨ret_bo HB.out.symm, hb0⟩
  ·have HB := Lib.hid (hr.trans (show _ = false by simp [h1, h3]))
   clear hr
   go_enter Tryz.func139, Tryz.ntmps139
   go_wp2
   go_ret
   exact ⟨ret_bo HB.out.symm, hb0⟩
theorem iwins_any (a b : It) (w : World) : Calls Tryz.prog 141 #[a.val, b.val] w fun e w' => e = .returned (.bool (a.wins b)) ∧ Below w.heap.size w w' := by
 obtain ⟨s1, k1, t1, v1, x1⟩ := a
 obtain ⟨s2, k2, t2, v2, x2⟩ := b
 have hb0 := ((Below.refl w.heap.size w).alloc (Nat.le_refl _) (.cells #[.int .i64 s1, .int .i64 k1, .int .u64 (t1 : Int), .int .u64 (v1 : Int), .int .i64 x1] 27)).alloc (by simp) (.cells #[.int .i64 s2, .int .i64 k2, .int .u64 (t2 : Int), .int .u64 (v2 : Int), .int .i64 x2] 27)
 obtain ⟨r, hr⟩ : ∃ r, r = It.wins ⟨s1, k1, t1, v1, x1⟩ ⟨s2, k2, t2, v2, x2⟩ := ⟨_, rfl⟩
 rw [← hr]
 unfold It.wins at hr
 unfold It.val
 simp only at hr ⊢
 by_cases h1 : (v2 : Int) < (v1 : Int)
 ·have h4 : v2 < v1 := by omega
  have HB := Lib.hid (hr.trans (show _ = true by simp [h4]))
  clear hr
  go_enter Tryz.func141, Tryz.ntmps141
  go_wp2
  go_ret
  exact ⟨ret_bo HB.out.symm, hb0⟩
 ·have h4 : ¬ v2 < v1 := by omega
  by_cases h2 : v1 = v2
  ·subst h2
   by_cases h3 : x2 < x1
   ·have HB := Lib.hid (hr.trans (show _ = true by simp [h3]))
    clear hr
    go_enter Tryz.func141, Tryz.ntmps141
    go_wp2
    go_ret
    exact ⟨ret_bo HB.out.symm, hb0⟩
   ·have HB := Lib.hid (hr.trans (show _ = false by simp [h3]))
    clear hr
    go_enter Tryz.func141, Tryz.ntmps141
    go_wp2
    go_ret
    exact ⟨ret_bo HB.out.symm, hb0⟩
  ·have e2 : ((v1 : Int) == (v2 : Int)) = false := by rw [beq_eq_false_iff_ne]; omega
   have HB := Lib.hid (hr.trans (show _ = false by simp [h4, h2]))
   clear hr
   go_enter Tryz.func141, Tryz.ntmps141
   go_wp2
   go_ret
   exact ⟨ret_bo HB.out.symm, hb0⟩
theorem ihides_any (a b : It) (w : World) : Calls Tryz.prog 154 #[a.val, b.val] w fun e w' => e = .returned (.bool (a.hides b)) ∧ Below w.heap.size w w' := by
 obtain ⟨s1, k1, t1, v1, x1⟩ := a
 obtain ⟨s2, k2, t2, v2, x2⟩ := b
 have hb0 := ((Below.refl w.heap.size w).alloc (Nat.le_refl _) (.cells #[.int .i64 s1, .int .i64 k1, .int .u64 (t1 : Int), .int .u64 (v1 : Int), .int .i64 x1] 27)).alloc (by simp) (.cells #[.int .i64 s2, .int .i64 k2, .int .u64 (t2 : Int), .int .u64 (v2 : Int), .int .i64 x2] 27)
 obtain ⟨r, hr⟩ : ∃ r, r = It.hides ⟨s1, k1, t1, v1, x1⟩ ⟨s2, k2, t2, v2, x2⟩ := ⟨_, rfl⟩
 rw [← hr]
 unfold It.hides at hr
 unfold It.val
 simp only at hr ⊢
 by_cases h1 : k1 = 1
 ·subst h1
  by_cases h2 : k2 = 2
  ·subst h2
   by_cases h3 : s1 = s2
   ·subst h3
    by_cases h4 : (v2 : Int) ≤ (v1 : Int)
    ·have h5 : v2 ≤ v1 := by omega
     have HB := Lib.hid (hr.trans (show _ = true by simp [h5]))
     clear hr
     go_enter Tryz.func154, Tryz.ntmps154
     go_wp2
     go_ret
     exact ⟨ret_bo HB.out.symm, hb0⟩
    ·have h5 : ¬ v2 ≤ v1 := by omega
     have HB := Lib.hid (hr.trans (show _ = false by simp [h5]))
     clear hr
     go_enter Tryz.func154, Tryz.ntmps154
     go_wp2
     go_ret
     exact ⟨ret_bo HB.out.symm, hb0⟩
   ·have e3 : (s1 == s2) = false := by simpa using h3
    have HB := Lib.hid (hr.trans (show _ = false by simp [h3]))
    clear hr
    go_enter Tryz.func154, Tryz.ntmps154
    go_wp2
    go_ret
    exact ⟨ret_bo HB.out.symm, hb0⟩
  ·have e2 : (k2 == 2) = false := by simpa using h2
   have HB := Lib.hid (hr.trans (show _ = false by simp [h2]))
   clear hr
   go_enter Tryz.func154, Tryz.ntmps154
   go_wp2
   go_ret
   exact ⟨ret_bo HB.out.symm, hb0⟩
 ·have e1 : (k1 == 1) = false := by simpa using h1
  have HB := Lib.hid (hr.trans (show _ = false by simp [h1]))
  clear hr
  go_enter Tryz.func154, Tryz.ntmps154
  go_wp2
  go_ret
  exact ⟨ret_bo HB.out.symm, hb0⟩
theorem isame_any (a b : It) (w : World) : Calls Tryz.prog 140 #[a.val, b.val] w fun e w' => e = .returned (.bool (a.same b)) ∧ Below w.heap.size w w' := by
 obtain ⟨s1, k1, t1, v1, x1⟩ := a
 obtain ⟨s2, k2, t2, v2, x2⟩ := b
 have hb0 := ((Below.refl w.heap.size w).alloc (Nat.le_refl _) (.cells #[.int .i64 s1, .int .i64 k1, .int .u64 (t1 : Int), .int .u64 (v1 : Int), .int .i64 x1] 27)).alloc (by simp) (.cells #[.int .i64 s2, .int .i64 k2, .int .u64 (t2 : Int), .int .u64 (v2 : Int), .int .i64 x2] 27)
 have hl := fun W => iless_any ⟨s1, k1, t1, v1, x1⟩ ⟨s2, k2, t2, v2, x2⟩ W
 have hl2 := fun W => iless_any ⟨s2, k2, t2, v2, x2⟩ ⟨s1, k1, t1, v1, x1⟩ W
 unfold It.val It.same
 unfold It.val at hl hl2
 simp only at hl hl2 ⊢
 generalize It.less ⟨s1, k1, t1, v1, x1⟩ ⟨s2, k2, t2, v2, x2⟩ = p at *
 generalize It.less ⟨s2, k2, t2, v2, x2⟩ ⟨s1, k1, t1, v1, x1⟩ = q at *
 have HL := Lib.hid hl
 have HL2 := Lib.hid hl2
 have hA := (BoxO.new w #[.int .i64 s1, .int .i64 k1, .int .u64 (t1 : Int), .int .u64 (v1 : Int), .int .i64 x1] 27).alloc (.cells #[.int .i64 s2, .int .i64 k2, .int .u64 (t2 : Int), .int .u64 (v2 : Int), .int .i64 x2] 27)
 have hB := BoxO.new (w.alloc (.cells #[.int .i64 s1, .int .i64 k1, .int .u64 (t1 : Int), .int .u64 (v1 : Int), .int .i64 x1] 27)) #[.int .i64 s2, .int .i64 k2, .int .u64 (t2 : Int), .int .u64 (v2 : Int), .int .i64 x2] 27
 rw [World.size_alloc] at hB
 clear hl hl2
 cases p with
 | true =>
  clear hA hB HL2
  go_enter Tryz.func140, Tryz.ntmps140
  go_wp2_with fail
  refine (HL.out _).mono ?_
  rintro e w1 ⟨rfl, hb1⟩
  have hbz := later_ hb0 hb1
  go_wp2
  go_ret
  exact ⟨rfl, hbz⟩
 | false =>
  go_enter Tryz.func140, Tryz.ntmps140
  go_wp2_with fail
  refine (HL.out _).mono ?_
  rintro e w1 ⟨rfl, hb1⟩
  have hbz := later_ hb0 hb1
  have kA := hA.below hb1
  have kB := hB.below hb1
  have a0 := kA.cell 0
  have a1 := kA.cell 1
  have a2 := kA.cell 2
  have a3 := kA.cell 3
  have a4 := kA.cell 4
  have b0 := kB.cell 0
  have b1 := kB.cell 1
  have b2 := kB.cell 2
  have b3 := kB.cell 3
  have b4 := kB.cell 4
  simp only [gE0, gE1] at a0 a1 a2 a3 a4 b0 b1 b2 b3 b4
  clear hA hB kA kB HL
  go_wp2_with fail
  refine (HL2.out _).mono ?_
  rintro e w2 ⟨rfl, hb2⟩
  have hby := later_ hbz hb2
  cases q
  all_goals
   go_wp2
   go_ret
   exact ⟨rfl, hby⟩
theorem iok_any (a : It) (w : World) : Calls Tryz.prog 78 #[a.val] w fun e w' => e = .returned (.bool a.ok) ∧ Below w.heap.size w w' := by
 obtain ⟨s1, k1, t1, v1, x1⟩ := a
 have hb0 := (Below.refl w.heap.size w).alloc (Nat.le_refl _) (.cells #[.int .i64 s1, .int .i64 k1, .int .u64 (t1 : Int), .int .u64 (v1 : Int), .int .i64 x1] 27)
 obtain ⟨r, hr⟩ : ∃ r, r = It.ok ⟨s1, k1, t1, v1, x1⟩ := ⟨_, rfl⟩
 rw [← hr]
 unfold It.ok at hr
 unfold It.val
 simp only at hr ⊢
 by_cases h1 : s1 < 0
 ·have g1 : ¬ 0 ≤ s1 := by omega
  have HB := Lib.hid (hr.trans (show _ = false by simp [g1]))
  clear hr
  go_enter Tryz.func78, Tryz.ntmps78
  go_wp2
  go_ret
  exact ⟨ret_bo HB.out.symm, hb0⟩
 have g1 : 0 ≤ s1 := by omega
 by_cases h2 : 255 < s1
 ·have g2 : ¬ s1 ≤ 255 := by omega
  have HB := Lib.hid (hr.trans (show _ = false by simp [g2]))
  clear hr
  go_enter Tryz.func78, Tryz.ntmps78
  go_wp2
  go_ret
  exact ⟨ret_bo HB.out.symm, hb0⟩
 have g2 : s1 ≤ 255 := by omega
 by_cases h3 : (v1 : Int) < 1
 ·have g3 : ¬ 1 ≤ v1 := by omega
  have HB := Lib.hid (hr.trans (show _ = false by simp [g3]))
  clear hr
  go_enter Tryz.func78, Tryz.ntmps78
  go_wp2
  go_ret
  exact ⟨ret_bo HB.out.symm, hb0⟩
 have g3 : 1 ≤ v1 := by omega
 by_cases h4 : 281474976710656 < (v1 : Int)
 ·have g4 : ¬ v1 ≤ 281474976710656 := by omega
  have HB := Lib.hid (hr.trans (show _ = false by simp [g4]))
  clear hr
  go_enter Tryz.func78, Tryz.ntmps78
  go_wp2
  go_ret
  exact ⟨ret_bo HB.out.symm, hb0⟩
 have g4 : v1 ≤ 281474976710656 := by omega
 by_cases h5 : k1 = 1
 ·subst h5
  by_cases h6 : t1 = 0
  ·subst h6
   by_cases h7 : x1 = 0
   ·subst h7
    have HB := Lib.hid (hr.trans (show _ = true by simp [g1, g2, g3, g4]))
    clear hr
    go_enter Tryz.func78, Tryz.ntmps78
    go_wp2
    go_ret
    exact ⟨ret_bo HB.out.symm, hb0⟩
   ·have e7 : (x1 == 0) = false := by simpa using h7
    have HB := Lib.hid (hr.trans (show _ = false by simp [h7]))
    clear hr
    go_enter Tryz.func78, Tryz.ntmps78
    go_wp2
    go_ret
    exact ⟨ret_bo HB.out.symm, hb0⟩
  ·have e6 : ((t1 : Int) == 0) = false := by rw [beq_eq_false_iff_ne]; omega
   have HB := Lib.hid (hr.trans (show _ = false by simp [h6]))
   clear hr
   go_enter Tryz.func78, Tryz.ntmps78
   go_wp2
   go_ret
   exact ⟨ret_bo HB.out.symm, hb0⟩
 have e5 : (k1 == 1) = false := by simpa using h5
 by_cases h8 : k1 = 2
 ·subst h8
  by_cases h9 : (t1 : Int) ≤ 1099511627776
  ·have g9 : t1 ≤ 1099511627776 := by omega
   have HB := Lib.hid (hr.trans (show _ = true by simp [g1, g2, g3, g4, g9]))
   clear hr
   go_enter Tryz.func78, Tryz.ntmps78
   go_wp2
   go_ret
   exact ⟨ret_bo HB.out.symm, hb0⟩
  ·have g9 : ¬ t1 ≤ 1099511627776 := by omega
   have HB := Lib.hid (hr.trans (show _ = false by simp [g9]))
   clear hr
   go_enter Tryz.func78, Tryz.ntmps78
   go_wp2
   go_ret
   exact ⟨ret_bo HB.out.symm, hb0⟩
 have e8 : (k1 == 2) = false := by simpa using h8
 have HB := Lib.hid (hr.trans (show _ = false by simp [h5, h8]))
 clear hr
 go_enter Tryz.func78, Tryz.ntmps78
 go_wp2
 go_ret
 exact ⟨ret_bo HB.out.symm, hb0⟩
end
section
open It
structure Nd where
 x : It
 b : Nat
 tb : Nat
 h : Nat
 c : Nat
def nxt (h : Nat) (l : List Nd) : Option Nd := l.find? fun n => decide (h < n.h)
def nxb (h : Nat) (l : List Nd) : Option Nat := (nxt h l).map (·.b)
variable {ns : List Nd} {i h q j k : Nat} {n : Nd} {x : It}
theorem nxt_some (e : nxt h (ns.drop (i + 1)) = some n) : ∃ k, i < k ∧ ns[k]? = some n ∧ h < n.h ∧ ∀ m n', i < m → m < k → ns[m]? = some n' → n'.h ≤ h := by
 obtain ⟨h1, as1, bs, h2, h3⟩ := List.find?_eq_some_iff_append.1 e
 have hg : ∀ m, ns[i + 1 + m]? = (as1 ++ n :: bs)[m]? := fun m => by rw [← h2, List.getElem?_drop]
 refine ⟨i + 1 + as1.length, by omega, by rw [hg, List.getElem?_append_right (by omega)]; simp, by simpa using h1, fun m n' h4 h5 h6 => ?_⟩
 obtain ⟨d, rfl⟩ : ∃ d, m = i + 1 + d := ⟨m - (i + 1), by omega⟩
 rw [hg, List.getElem?_append_left (by omega)] at h6
 have := h3 n' (List.mem_of_getElem? h6)
 simpa using this
theorem nxt_none (e : nxt h (ns.drop (i + 1)) = none) : ∀ m n', i < m → ns[m]? = some n' → n'.h ≤ h := by
 intro m n' h4 h6
 obtain ⟨d, rfl⟩ : ∃ d, m = i + 1 + d := ⟨m - (i + 1), by omega⟩
 have hm : n' ∈ ns.drop (i + 1) := List.mem_of_getElem? (i := d) (by rw [List.getElem?_drop]; exact h6)
 simpa using List.find?_eq_none.1 e n' hm
structure Pred (ns : List Nd) (h q j : Nat) : Prop where
 lt : j < q
 on : ∃ n, ns[j]? = some n ∧ h < n.h
 last : ∀ i n, j < i → i < q → ns[i]? = some n → n.h ≤ h
def its (ns : List Nd) : List It := (ns.drop 1).map (·.x)
theorem its_get (k : Nat) : (its ns)[k]? = (ns[k + 1]?).map (·.x) := by
 unfold its
 rw [List.getElem?_map, List.getElem?_drop, Nat.add_comm]
theorem its_pos (hr : Rises (its ns)) (hk : 0 < k) (e : ns[k]? = some n) : less n.x x = decide (k < pos (its ns) x + 1) := by
 obtain ⟨m, rfl⟩ : ∃ m, k = m + 1 := ⟨k - 1, by omega⟩
 have hg : (its ns)[m]? = some n.x := by rw [its_get, e]; rfl
 obtain ⟨h1, h2⟩ := split_pos hr x
 have hm : m < (its ns).length := (List.getElem?_eq_some_iff.1 hg).1
 cases hl : less n.x x with
 | true =>
  refine (decide_eq_true ?_).symm
  apply Classical.byContradiction
  intro hn
  have : n.x ∈ (its ns).drop (pos (its ns) x) := List.mem_of_getElem? (i := m - pos (its ns) x) (by rw [List.getElem?_drop, ← hg]; congr 1; omega)
  rw [h2] at this
  have := (List.mem_filter.1 this).2
  rw [hl] at this
  cases this
 | false =>
  refine (decide_eq_false fun hn => ?_).symm
  have : n.x ∈ (its ns).take (pos (its ns) x) := List.mem_of_getElem? (i := m) (by rw [List.getElem?_take, if_pos (by omega), hg])
  rw [h1] at this
  have := (List.mem_filter.1 this).2
  rw [hl] at this
  cases this
theorem Pred.low (hp : Pred ns 0 q j) (hq : q ≤ ns.length) (h1 : ∀ n ∈ ns, 1 ≤ n.h) : j + 1 = q := by
 apply Classical.byContradiction
 intro hn
 have hlt := hp.lt
 have hl : j + 1 < ns.length := by omega
 have := hp.last (j + 1) ns[j + 1] (by omega) (by omega) (List.getElem?_eq_getElem hl)
 have := h1 _ (List.getElem_mem hl)
 omega
theorem nxb_skip {A R : List Nd} (h0 : ∀ n ∈ A, n.h ≤ h) : nxb h (A ++ R) = nxb h R := by
 unfold nxb nxt
 rw [List.find?_append, List.find?_eq_none.2 (fun n hn => by have := h0 n hn; simpa using this)]
 simp
theorem nxb_stop {A R R' : List Nd} (h0 : ∃ n ∈ A, h < n.h) : nxb h (A ++ R) = nxb h (A ++ R') := by
 unfold nxb nxt
 rw [List.find?_append, List.find?_append]
 obtain ⟨n, hn, hh⟩ := h0
 cases e : A.find? fun n => decide (h < n.h) with
 | none =>
  have := List.find?_eq_none.1 e n hn
  simp at this
  omega
 | some m => simp
theorem nxb_same {A R : List Nd} {n n' : Nd} (hb : n'.b = n.b) (hh : h < n'.h ↔ h < n.h) : nxb h (A ++ n' :: R) = nxb h (A ++ n :: R) := by
 unfold nxb nxt
 rw [List.find?_append, List.find?_append]
 cases e : A.find? fun n => decide (h < n.h) with
 | none =>
  simp only [Option.none_or, List.find?_cons]
  by_cases h1 : h < n.h
  ·simp [h1, hh.2 h1, hb]
  ·have h2 : ¬ h < n'.h := fun h => h1 (hh.1 h)
   simp [h1, h2]
 | some m => simp
theorem nxb_add {A R : List Nd} {n : Nd} (hn : n.h = 0) : nxb h (A ++ n :: R) = nxb h (A ++ R) := by
 unfold nxb nxt
 rw [List.find?_append, List.find?_append]
 simp [List.find?_cons, hn]
theorem Pred.seg {A R : List Nd} (hp : Pred (A ++ R) h A.length j) : ∀ m ∈ A.drop (j + 1), m.h ≤ h := by
 intro m hm
 obtain ⟨i, hi, rfl⟩ := List.getElem_of_mem hm
 rw [List.length_drop] at hi
 rw [List.getElem_drop]
 exact hp.last (j + 1 + i) _ (by omega) (by omega) (by rw [List.getElem?_append_left (by omega)]; exact List.getElem?_eq_getElem (by omega))
theorem raise {A R : List Nd} {n n' : Nd} (hj : Pred (A ++ n :: R) h A.length j) (hn : n.h = h) (hn' : n'.h = h + 1) (hb : n'.b = n.b) (i l : Nat) (m : Nd) (hm : (A ++ n' :: R)[i]? = some m) (hl : l < m.h) :
  nxb l ((A ++ n' :: R).drop (i + 1)) = if i = j ∧ l = h then some n.b else if i = A.length ∧ l = h then nxb l ((A ++ n :: R).drop (j + 1)) else nxb l ((A ++ n :: R).drop (i + 1)) := by
 rcases Nat.lt_trichotomy i A.length with h1 | h1 | h1
 ·have e : ∀ n : Nd, (A ++ n :: R).drop (i + 1) = A.drop (i + 1) ++ n :: R := fun n => by rw [List.drop_append_of_le_length (by omega)]
  rw [List.getElem?_append_left h1] at hm
  by_cases h2 : l = h
  ·subst h2
   by_cases h3 : i = j
   ·subst h3
    rw [if_pos ⟨rfl, rfl⟩, e, nxb_skip hj.seg]
    unfold nxb nxt
    simp [List.find?_cons, hn', hb]
   ·rw [if_neg (by simp [h3]), if_neg (by omega), e, e]
    rcases Nat.lt_or_gt_of_ne h3 with h4 | h4
    ·obtain ⟨p, hp, hh⟩ := hj.on
     have := hj.lt
     rw [List.getElem?_append_left hj.lt] at hp
     exact nxb_stop ⟨p, List.mem_of_getElem? (i := j - (i + 1)) (by rw [List.getElem?_drop, ← hp]; congr 1; omega), hh⟩
    ·exfalso
     have := hj.last i m h4 h1 (by rw [List.getElem?_append_left h1]; exact hm)
     omega
  ·rw [if_neg (by simp [h2]), if_neg (by simp [h2]), e, e]
   exact nxb_same hb (by omega)
 ·subst h1
  have hlt := hj.lt
  rw [List.getElem?_append_right (Nat.le_refl _), Nat.sub_self, gE0] at hm
  injection hm with hm
  subst hm
  have e : ∀ n : Nd, (A ++ n :: R).drop (A.length + 1) = R := fun n => by
   rw [← List.drop_drop, List.drop_left]
   rfl
  by_cases h2 : l = h
  ·subst h2
   rw [if_neg (by omega), if_pos ⟨rfl, rfl⟩, e]
   have e2 : (A ++ n :: R).drop (j + 1) = (A.drop (j + 1) ++ [n]) ++ R := by rw [List.drop_append_of_le_length (by omega)]; simp
   rw [e2, nxb_skip]
   intro m hm
   rcases List.mem_append.1 hm with h3 | h3
   ·exact hj.seg m h3
   ·rw [List.mem_singleton.1 h3, hn]
    exact Nat.le_refl _
  ·rw [if_neg (by simp [h2]), if_neg (by simp [h2]), e, e]
 ·have hlt := hj.lt
  have e : ∀ n : Nd, (A ++ n :: R).drop (i + 1) = R.drop (i - A.length) := fun n => by
   rw [List.drop_append, List.drop_eq_nil_of_le (by omega), List.nil_append]
   have : i + 1 - A.length = (i - A.length) + 1 := by omega
   rw [this, List.drop_succ_cons]
  rw [if_neg (by omega), if_neg (by omega), e, e]
theorem its_insert {A R : List Nd} {n : Nd} (hA : 0 < A.length) : its (A ++ n :: R) = (its (A ++ R)).take (A.length - 1) ++ n.x :: (its (A ++ R)).drop (A.length - 1) := by
 unfold its
 rw [List.drop_append_of_le_length (by omega), List.drop_append_of_le_length (by omega), List.map_append, List.map_append, List.map_cons]
 have hl : ((A.drop 1).map (·.x)).length = A.length - 1 := by simp
 rw [← hl, List.take_left, List.drop_left]
end
section
open Go Go.RowKit Go.Lib
theorem run_call_loadp {P : Program} {f : FuncId} {fn : Func} (hf : P.funcs[f]? = some fn) (hname : (fn.name == "runtime.NumGoroutine") = false) (hb : fn.body.isNone = true) (hn : Extern.findNext fn = none)
  (he : Extern.find fn = some (Extern.Atomic.loadT .ptr)) {a : Addr} {x : Option Addr} {w : World} (hc : w.cell? a = some (.pointer x)) :
  (callFunc f #[.pointer (some a)]).run P w = .ok (.value (.pointer x)) w := by
 rw [run_callFunc_extern hf hname hb hn he]
 change (Sem.run P (do Extern.Atomic.read .ptr (← asAddr (.pointer (some a)))) w).andThen _ = _
 simp [Extern.Atomic.read, asAddr, hc, Result.andThen]
theorem run_call_storep {P : Program} {f : FuncId} {fn : Func} (hf : P.funcs[f]? = some fn) (hname : (fn.name == "runtime.NumGoroutine") = false) (hb : fn.body.isNone = true) (hn : Extern.findNext fn = none)
  (he : Extern.find fn = some Extern.Atomic.storeT) {a : Addr} {y : Option Addr} {u : Value} {w : World} (hc : w.cell? a = some u) (hz : w.frozen? a = false) :
  (callFunc f #[.pointer (some a), .pointer y]).run P w = .ok (.value (.tuple #[])) (w.setCell a (.pointer y)) := by
 rw [run_callFunc_extern hf hname hb hn he]
 change (Sem.run P (do
  store (← asAddr (.pointer (some a))) (.pointer y) .atomic
  pure Extern.Atomic.none_) w).andThen _ = _
 simp [asAddr, hc, hz, run_store P w a (.pointer y) .atomic rfl, Result.andThen, Extern.Atomic.none_]
theorem conv_nil (w : World) : (convert 233 229 (.pointer none)).run Tryz.prog w = .ok (.pointer none) w := by
 have h1 : Tryz.prog.underlying 233 = some .unsafePointer := by kernel_rfl
 have h2 : Tryz.prog.underlying 229 = some (.pointer 238) := by kernel_rfl
 simp [convert, Conv.unsafePointer, run_underlying h1, run_underlying h2, Result.andThen]
theorem conv_some {w : World} {b : Nat} {xs : List Value} (h : BoxO w 238 b xs) (hl : xs.length = 6) : (convert 233 229 (.pointer (some ⟨b, 0, none⟩))).run Tryz.prog w = .ok (.pointer (some ⟨b, 0, none⟩)) w := by
 have h1 : Tryz.prog.underlying 233 = some .unsafePointer := by kernel_rfl
 have h2 : Tryz.prog.underlying 229 = some (.pointer 238) := by kernel_rfl
 have h3 : liesAt Tryz.prog Tryz.prog.depth 238 (6 / Tryz.prog.cellsOf 238) 0 238 1 = true := by kernel_rfl
 have h4 : w.shape? b = some (238, 6) := by
  unfold World.shape?
  rw [h]
  simp [hl]
 simp [convert, Conv.unsafePointer, Conv.seenAt, viewAt, variablesAt, run_underlying h1, run_underlying h2, h4, h3, Result.andThen]
def NdPtr (w : World) : Option Addr → Prop
 | none => True
 | some a => ∃ b xs, a = ⟨b, 0, none⟩ ∧ BoxO w 238 b xs ∧ xs.length = 6
theorem conv_of {w : World} {v : Option Addr} (h : NdPtr w v) : (convert 233 229 (.pointer v)).run Tryz.prog w = .ok (.pointer v) w := by
 cases v with
 | none => exact conv_nil w
 | some a =>
  obtain ⟨b, xs, rfl, h1, h2⟩ := h
  exact conv_some h1 h2
theorem conv_to {w : World} {v : Option Addr} (h : NdPtr w v) : (convert 229 233 (.pointer v)).run Tryz.prog w = .ok (.pointer v) w := by
 have h1 : Tryz.prog.underlying 233 = some .unsafePointer := by kernel_rfl
 have h2 : Tryz.prog.underlying 229 = some (.pointer 238) := by kernel_rfl
 cases v with
 | none => simp [convert, Conv.unsafePointer, run_underlying h1, run_underlying h2, Result.andThen]
 | some a =>
  obtain ⟨b, xs, rfl, h3, h4⟩ := h
  have hc : w.cell? ⟨b, 0, none⟩ = some (xs[0]'(by omega)) := by rw [h3.cell]; exact List.getElem?_eq_getElem _
  exact run_convert_to_unsafe (P := Tryz.prog) h2 h1 (by kernel_rfl) hc
theorem apload_any (g j : Nat) (v : Option Addr) (w : World) (hc : w.cell? ⟨g, j, none⟩ = some (.pointer v)) (hv : NdPtr w v) :
  Calls Tryz.prog 162 #[.pointer (some ⟨g, j, none⟩)] w fun e w' => e = .returned (.pointer v) ∧ w' = w := by
 have hld := run_call_loadp (P := Tryz.prog) Tryz.func212 (by kernel_rfl) (by kernel_rfl) (by kernel_rfl) (by kernel_rfl) hc
 have hcv := conv_of hv
 go_enter Tryz.func162, Tryz.ntmps162
 go_wp2
 go_ret
 exact ⟨rfl, rfl⟩
theorem apstore_any (g j : Nat) (u : Value) (v : Option Addr) (w : World) (hc : w.cell? ⟨g, j, none⟩ = some u) (hz : w.frozen? ⟨g, j, none⟩ = false) (hv : NdPtr w v) :
  Calls Tryz.prog 164 #[.pointer (some ⟨g, j, none⟩), .pointer v] w fun e w' => e = .returned (.tuple #[]) ∧ w' = w.setCell ⟨g, j, none⟩ (.pointer v) := by
 have hst := run_call_storep (P := Tryz.prog) Tryz.func213 (by kernel_rfl) (by kernel_rfl) (by kernel_rfl) (by kernel_rfl) (y := v) hc hz
 have hcv := conv_to hv
 go_enter Tryz.func164, Tryz.ntmps164
 go_wp2
 exact bodyPost_end (v := .tuple #[]) (by simp [results, go_sem]) rfl ⟨rfl, rfl⟩
end
section
open Go Go.RowKit Go.Lib
theorem info_apt : (Tryz.prog.info? 235).map (fun i => (i.zero.map (·.cells), i.size, i.bytes)) = some (some #[.pointer none], 1, 8) := by kernel_rfl
theorem make_tower (h : Nat) (h6 : h ≤ 6) : ∃ cs : Array Value, cs.toList = List.replicate h (.pointer none) ∧ ∀ W : World, (Instr.makeSlice 236 (.int .i64 (h : Int)) (.int .i64 (h : Int))).run Tryz.prog W = .ok (.slice (some ⟨W.heap.size, 0, none⟩) h h) (W.alloc (.cells cs 235)) := by
 obtain ⟨i, hi, hz⟩ := Option.map_eq_some_iff.1 info_apt
 simp only [Prod.mk.injEq] at hz
 obtain ⟨hz0, hz1, hz2⟩ := hz
 obtain ⟨z, hz3, hz4⟩ := Option.map_eq_some_iff.1 hz0
 refine ⟨madeCells #[.pointer none] h, toList_madeCells_one _ h, fun W => ?_⟩
 have hr := run_make (P := Tryz.prog) W 236 235 i z Tryz.underlying236 hi hz3 .i64 .i64 h h (by omega) (by omega) (by rw [hz2]; omega) (by omega)
 simpa [hz1, hz4] using hr
theorem tower_mem {w W : World} {g : Nat} (hb : Below w.heap.size w W) (x : It) (h : Nat) (cs : Array Value) (hcs : cs.toList = List.replicate h (.pointer none)) (hg : W.heap.size = g) :
  BoxO ((W.alloc (.cells cs 235)).alloc (.cells #[.int .i64 x.s, .int .i64 x.k, .int .u64 (x.t : Int), .int .u64 (x.v : Int), .int .i64 x.x, .slice (some ⟨g, 0, none⟩) h h] 238)).drew 238 (g + 1) (x.cells ++ [.slice (some ⟨g, 0, none⟩) h h]) ∧
  BoxO ((W.alloc (.cells cs 235)).alloc (.cells #[.int .i64 x.s, .int .i64 x.k, .int .u64 (x.t : Int), .int .u64 (x.v : Int), .int .i64 x.x, .slice (some ⟨g, 0, none⟩) h h] 238)).drew 235 g (List.replicate h (.pointer none)) ∧ g + 1 ≠ g ∧ w.heap.size ≤ g + 1 ∧ w.heap.size ≤ g ∧ Below w.heap.size w ((W.alloc (.cells cs 235)).alloc (.cells #[.int .i64 x.s, .int .i64 x.k, .int .u64 (x.t : Int), .int .u64 (x.v : Int), .int .i64 x.x, .slice (some ⟨g, 0, none⟩) h h] 238)).drew := by
 have h1 : (W.alloc (.cells cs 235)).heap.size = W.heap.size + 1 := by simp
 have h2 := hb.size
 have h3 : BoxO (W.alloc (.cells cs 235)) 235 W.heap.size (List.replicate h (.pointer none)) := hcs ▸ BoxO.new W cs 235
 subst hg
 exact ⟨by rw [← h1]; exact (BoxO.new _ _ _).drew, (h3.alloc _).drew, by omega, by omega, h2, below_drew ((hb.alloc h2 _).alloc (by omega) _)⟩
theorem tower_any (x : It) (h : Nat) (w : World) (h1 : 1 ≤ h) (h6 : h ≤ 6) :
  Calls Tryz.prog 163 #[x.val, .int .i64 (h : Int)] w fun e w' => ∃ b tb, e = .returned (.pointer (some ⟨b, 0, none⟩)) ∧ BoxO w' 238 b (x.cells ++ [.slice (some ⟨tb, 0, none⟩) h h]) ∧ BoxO w' 235 tb (List.replicate h (.pointer none)) ∧ b ≠ tb ∧ w.heap.size ≤ b ∧ w.heap.size ≤ tb ∧ Below w.heap.size w w' := by
 obtain ⟨cs, hcs, hmk⟩ := make_tower h h6
 have hb1 : (1 : Int) ≤ (h : Int) := by omega
 have hb6 : (h : Int) ≤ 6 := by omega
 unfold It.val
 go_enter Tryz.func163, Tryz.ntmps163
 go_wp2_with fail
 go_region
 all_goals go_wp2
 all_goals go_ret
 all_goals
  have hm := tower_mem (g := w.heap.size + 1) ((Below.refl w.heap.size w).alloc (Nat.le_refl _) (.cells #[.int .i64 x.s, .int .i64 x.k, .int .u64 (x.t : Int), .int .u64 (x.v : Int), .int .i64 x.x] 27)) x h cs hcs (by simp)
  exact ⟨_, _, rfl, hm⟩
structure SkC (w : World) (ns : List Nd) : Prop where
 node : ∀ n ∈ ns, BoxO w 238 n.b (n.x.cells ++ [.slice (some ⟨n.tb, 0, none⟩) n.c n.c])
 tower : ∀ (i : Nat) (n : Nd), ns[i]? = some n → ∃ cs, BoxO w 235 n.tb cs ∧ cs.length = n.c ∧ ∀ l, l < n.h → cs[l]? = some (.pointer ((nxb l (ns.drop (i + 1))).map fun b => ⟨b, 0, none⟩))
 cap : ∀ n ∈ ns, n.h ≤ n.c ∧ n.c ≤ 6
 apart : (ns.flatMap fun n => [n.b, n.tb]).Nodup
structure SkAt (w : World) (L : Nat) (ns : List Nd) : Prop where
 core : SkC w ns
 head : ∃ hd tl, ns = hd :: tl ∧ hd.h = 6 ∧ BoxO w 243 L [.pointer (some ⟨hd.b, 0, none⟩), .int .i64 (tl.length : Int)]
 out : L ∉ ns.flatMap fun n => [n.b, n.tb]
 tall : ∀ n ∈ ns, 1 ≤ n.h
 rises : Rises (its ns)
def skF (L : Nat) (ns : List Nd) : List Nat := L :: ns.flatMap fun n => [n.b, n.tb]
def bk (ns : List Nd) (j : Nat) : Nat := ((ns[j]?).map (·.b)).getD 0
def pv (ns : List Nd) (j : Nat) : Value := .pointer (some ⟨bk ns j, 0, none⟩)
theorem bk_of {ns : List Nd} {j : Nat} {n : Nd} (h : ns[j]? = some n) : bk ns j = n.b := by simp [bk, h]
variable {w w' : World} {L : Nat} {ns : List Nd}
theorem SkC.chg {F : List Nat} (h : SkC w ns) (c : Chg F w w') (hF : ∀ g ∈ ns.flatMap (fun n => [n.b, n.tb]), g ∉ F) : SkC w' ns :=
 ⟨fun n hn => (h.node n hn).chg c (hF _ (List.mem_flatMap.2 ⟨n, hn, by simp⟩)), fun i n hi => let ⟨cs, a, b, d⟩ := h.tower i n hi; ⟨cs, a.chg c (hF _ (List.mem_flatMap.2 ⟨n, List.mem_of_getElem? hi, by simp⟩)), b, d⟩, h.cap, h.apart⟩
theorem SkAt.chg {F : List Nat} (h : SkAt w L ns) (c : Chg F w w') (hF : ∀ g ∈ skF L ns, g ∉ F) : SkAt w' L ns :=
 ⟨h.core.chg c (fun g hg => hF g (List.mem_cons_of_mem _ hg)), let ⟨hd, tl, a, b, d⟩ := h.head; ⟨hd, tl, a, b, d.chg c (hF L List.mem_cons_self)⟩, h.out, h.tall, h.rises⟩
theorem SkAt.below (h : SkAt w L ns) (c : Below w.heap.size w w') : SkAt w' L ns := h.chg (Chg.of_below c []) (fun _ _ => by simp)
theorem SkC.below (h : SkC w ns) (c : Below w.heap.size w w') : SkC w' ns := h.chg (Chg.of_below c []) (fun _ _ => by simp)
theorem nxb_some {l b : Nat} {r : List Nd} (h : nxb l r = some b) : ∃ n, nxt l r = some n ∧ n.b = b := by
 unfold nxb at h
 exact Option.map_eq_some_iff.1 h
theorem nxb_none {l : Nat} {r : List Nd} (h : nxb l r = none) : nxt l r = none := by
 unfold nxb at h
 exact Option.map_eq_none_iff.1 h
theorem SkC.ptr (h : SkC w ns) (l i : Nat) : NdPtr w ((nxb l (ns.drop i)).map fun b => ⟨b, 0, none⟩) := by
 cases e : nxb l (ns.drop i) with
 | none => exact trivial
 | some b =>
  obtain ⟨n, h1, rfl⟩ := nxb_some e
  have hm : n ∈ ns := List.mem_of_mem_drop (List.mem_of_find?_eq_some h1)
  exact ⟨_, _, rfl, h.node n hm, rfl⟩
theorem SkC.look (h : SkC w ns) {i l : Nat} {n : Nd} (hi : ns[i]? = some n) (hl : l < n.h) :
  w.cell? ⟨n.b, 5, none⟩ = some (.slice (some ⟨n.tb, 0, none⟩) n.c n.c) ∧ (w.cell? ⟨n.tb, l, none⟩ = some (.pointer ((nxb l (ns.drop (i + 1))).map fun b => ⟨b, 0, none⟩)) ∧ w.frozen? ⟨n.tb, l, none⟩ = false) ∧ l < n.c ∧ n.c ≤ 6 := by
 have hm := List.mem_of_getElem? hi
 obtain ⟨cs, h1, h2, h3⟩ := h.tower i n hi
 have h4 := h.cap n hm
 refine ⟨by rw [(h.node n hm).cell]; rfl, ⟨by rw [h1.cell]; exact h3 l hl, h1.free l⟩, by omega, h4.2⟩
def rk (ns : List Nd) : Value → Nat
 | .pointer (some a) => ns.length - ns.findIdx (fun n => n.b == a.block)
 | _ => 0
theorem SkC.inj (h : SkC w ns) {i j : Nat} {n m : Nd} (hi : ns[i]? = some n) (hj : ns[j]? = some m) (hb : n.b = m.b) : i = j := by
 have key : ∀ (ns : List Nd) (i j : Nat) (n m : Nd), (ns.flatMap fun n => [n.b, n.tb]).Nodup → ns[i]? = some n → ns[j]? = some m → n.b = m.b → i = j := by
  intro ns
  induction ns with
  | nil => intro i j n m _ hi; simp at hi
  | cons a r ih =>
   intro i j n m hd hi hj hb
   simp only [List.flatMap_cons, List.cons_append, List.nil_append, List.nodup_cons, List.mem_cons, not_or] at hd
   obtain ⟨⟨_, h2⟩, _, h4⟩ := hd
   have hin : ∀ (k : Nat) (u : Nd), r[k]? = some u → u.b ≠ a.b := fun k u hu e => h2 (List.mem_flatMap.2 ⟨u, List.mem_of_getElem? hu, by simp [e]⟩)
   cases i with
   | zero =>
    cases j with
    | zero => rfl
    | succ j =>
     simp only [gE0, Option.some.injEq, gE1] at hi hj
     subst hi
     exact absurd hb.symm (hin j m hj)
   | succ i =>
    cases j with
    | zero =>
     simp only [gE0, Option.some.injEq, gE1] at hi hj
     subst hj
     exact absurd hb (hin i n hi)
    | succ j =>
     simp only [gE1] at hi hj
     rw [ih i j n m h4 hi hj hb]
 exact key ns i j n m h.apart hi hj hb
theorem SkC.rk (h : SkC w ns) {i : Nat} {n : Nd} (hi : ns[i]? = some n) : rk ns (.pointer (some ⟨n.b, 0, none⟩)) = ns.length - i := by
 unfold Go.Proofs.YtdkjoigpahafmaaGreatDoor.rk
 have hl : i < ns.length := (List.getElem?_eq_some_iff.1 hi).1
 have h1 : ns.findIdx (fun m => m.b == n.b) < ns.length := List.findIdx_lt_length_of_exists ⟨n, List.mem_of_getElem? hi, by simp⟩
 have h2 : (ns[ns.findIdx (fun m => m.b == n.b)]).b = n.b := by
  have := List.findIdx_getElem (w := h1)
  simpa using this
 have := h.inj (List.getElem?_eq_getElem h1) hi h2
 simp only
 omega
end
section
open Go Go.RowKit Go.Lib
theorem SkAt.lt {w : World} {L : Nat} {ns : List Nd} (h : SkAt w L ns) : ∀ g ∈ skF L ns, g < w.heap.size := by
 intro g hg
 rcases List.mem_cons.1 hg with rfl | hg
 ·obtain ⟨_, _, _, _, hL⟩ := h.head
  exact hL.lt
 ·obtain ⟨n, hn, hg⟩ := List.mem_flatMap.1 hg
  simp only [List.mem_cons, List.not_mem_nil, or_false] at hg
  rcases hg with rfl | rfl
  ·exact (h.core.node n hn).lt
  ·obtain ⟨i, hi⟩ := List.mem_iff_getElem?.1 hn
   obtain ⟨cs, h1, _⟩ := h.core.tower i n hi
   exact h1.lt
def oc (ns : List Nd) (J : Nat → Nat) (k : Nat) : List Value := (List.range 6).map fun l => if k ≤ l then pv ns (J l) else .pointer none
theorem oc_set (ns : List Nd) (J : Nat → Nat) (k i : Nat) (hk : k < 6) : (oc ns J (k + 1)).set k (pv ns i) = oc ns (fun l => if l = k then i else J l) k := by
 have e : k = 0 ∨ k = 1 ∨ k = 2 ∨ k = 3 ∨ k = 4 ∨ k = 5 := by omega
 rcases e with rfl | rfl | rfl | rfl | rfl | rfl <;> simp [oc, List.range, List.range.loop]
theorem oc_at {w : World} {g j k : Nat} {ns : List Nd} {J : Nat → Nat} (h : BoxO w 230 g (oc ns J k)) (hj : j < 6) : ∃ u, w.cell? ⟨g, j, none⟩ = some u := by
 rw [h.cell]
 exact ⟨_, List.getElem?_eq_getElem (by simpa [oc] using hj)⟩
theorem before_any (L q : Nat) (ns : List Nd) (x : It) (w : World) (h : SkAt w L ns) (hq : q = pos (its ns) x + 1) :
  Calls Tryz.prog 161 #[.pointer (some ⟨L, 0, none⟩), x.val] w fun e w' => ∃ J : Nat → Nat, (∀ l, l < 6 → Pred ns l q (J l)) ∧ e = .returned (.agg #[pv ns (J 0), pv ns (J 1), pv ns (J 2), pv ns (J 3), pv ns (J 4), pv ns (J 5)]) ∧ Below w.heap.size w w' := by
 have hlt := h.lt
 have hW := (((Below.refl w.heap.size w).alloc (Nat.le_refl _) (.cells #[.int .i64 x.s, .int .i64 x.k, .int .u64 (x.t : Int), .int .u64 (x.v : Int), .int .i64 x.x] 27)).alloc (by simp) (.cells #[.pointer none, .pointer none, .pointer none, .pointer none, .pointer none, .pointer none] 230)).alloc (by simp; omega) (.cells #[.pointer none, .pointer none, .pointer none, .pointer none, .pointer none, .pointer none] 230)
 have hs3 := h.below hW
 have hbx : BoxO (((w.alloc (.cells #[.int .i64 x.s, .int .i64 x.k, .int .u64 (x.t : Int), .int .u64 (x.v : Int), .int .i64 x.x] 27)).alloc (.cells #[.pointer none, .pointer none, .pointer none, .pointer none, .pointer none, .pointer none] 230)).alloc (.cells #[.pointer none, .pointer none, .pointer none, .pointer none, .pointer none, .pointer none] 230)) 27 w.heap.size x.cells := ((BoxO.new w #[.int .i64 x.s, .int .i64 x.k, .int .u64 (x.t : Int), .int .u64 (x.v : Int), .int .i64 x.x] 27).alloc _).alloc _
 have hb4 : BoxO (((w.alloc (.cells #[.int .i64 x.s, .int .i64 x.k, .int .u64 (x.t : Int), .int .u64 (x.v : Int), .int .i64 x.x] 27)).alloc (.cells #[.pointer none, .pointer none, .pointer none, .pointer none, .pointer none, .pointer none] 230)).alloc (.cells #[.pointer none, .pointer none, .pointer none, .pointer none, .pointer none, .pointer none] 230)) 230 (w.heap.size + 1) (oc ns (fun _ => 0) 6) := by
  have := (BoxO.new (w.alloc (.cells #[.int .i64 x.s, .int .i64 x.k, .int .u64 (x.t : Int), .int .u64 (x.v : Int), .int .i64 x.x] 27)) #[.pointer none, .pointer none, .pointer none, .pointer none, .pointer none, .pointer none] 230).alloc (.cells #[.pointer none, .pointer none, .pointer none, .pointer none, .pointer none, .pointer none] 230)
  simpa [oc, List.range, List.range.loop] using this
 have hb5 : BoxO (((w.alloc (.cells #[.int .i64 x.s, .int .i64 x.k, .int .u64 (x.t : Int), .int .u64 (x.v : Int), .int .i64 x.x] 27)).alloc (.cells #[.pointer none, .pointer none, .pointer none, .pointer none, .pointer none, .pointer none] 230)).alloc (.cells #[.pointer none, .pointer none, .pointer none, .pointer none, .pointer none, .pointer none] 230)) 230 (w.heap.size + 2) (oc ns (fun _ => 0) 6) := by
  have := BoxO.new ((w.alloc (.cells #[.int .i64 x.s, .int .i64 x.k, .int .u64 (x.t : Int), .int .u64 (x.v : Int), .int .i64 x.x] 27)).alloc (.cells #[.pointer none, .pointer none, .pointer none, .pointer none, .pointer none, .pointer none] 230)) #[.pointer none, .pointer none, .pointer none, .pointer none, .pointer none, .pointer none] 230
  simpa [oc, List.range, List.range.loop] using this
 obtain ⟨hd, tl, hns, h6, hL⟩ := hs3.head
 have l0 := hL.cell 0
 simp only [gE0] at l0
 have e0 : Value.pointer (some ⟨hd.b, 0, none⟩) = pv ns 0 := by unfold pv; rw [bk_of (ns := ns) (j := 0) (n := hd) (by rw [hns]; rfl)]
 have hql : q ≤ ns.length := by
  have h1 := pos_le (its ns) x
  have h2 : (its ns).length + 1 = ns.length := by rw [hns]; simp [its]
  omega
 have hless := fun (k : Nat) (n : Nd) (hk : 0 < k) (e : ns[k]? = some n) => its_pos (x := x) h.rises hk e
 obtain ⟨gs, hgs⟩ : ∃ gs, gs = w.heap.size := ⟨_, rfl⟩
 have hgl : ∀ g ∈ skF L ns, g ∉ [gs + 2] := fun g hg => by have := hlt g hg; simp; omega
 have HS3 := Lib.hid hs3
 have HGL := Lib.hid hgl
 have HW := Lib.hid hW
 have HBX := Lib.hid hbx
 have HB5 := Lib.hid hb5
 have HLS := Lib.hid hless
 have HE0 := Lib.hid e0
 have HH6 := Lib.hid h6
 have HNS := Lib.hid hns
 have HQ := Lib.hid hq
 have HGS := Lib.hid hgs
 have HB4 := Lib.hid hb4
 clear hs3 hgl hW hbx hb4 hb5 hless e0 h6 hns hq hgs hlt h hL
 unfold It.val
 go_enter Tryz.func161, Tryz.ntmps161
 go_wp2_with fail
 generalize hV : (((w.alloc (.cells #[.int .i64 x.s, .int .i64 x.k, .int .u64 (x.t : Int), .int .u64 (x.v : Int), .int .i64 x.x] 27)).alloc (.cells #[.pointer none, .pointer none, .pointer none, .pointer none, .pointer none, .pointer none] 230)).alloc (.cells #[.pointer none, .pointer none, .pointer none, .pointer none, .pointer none, .pointer none] 230)) = V at *
 clear hV l0
 go_loopw [6, 7] (fun at_ hI wr => ∃ (k i : Nat) (n : Nd) (J : Nat → Nat), hI = .int .i64 ((k : Int) - 1) ∧ at_ = .pointer (some ⟨n.b, 0, none⟩) ∧ Hid (k ≤ 6 ∧ ns[i]? = some n ∧ k ≤ n.h ∧ i < q ∧ ∀ l, k ≤ l → l < 6 → Pred ns l q (J l)) ∧ Hid (BoxO wr 230 (w.heap.size + 2) (oc ns J k)) ∧ Chg [w.heap.size + 2] V wr) (fun _ hI _ => (intOf hI + 1).toNat)
 case atStart => exact ⟨6, 0, hd, fun _ => 0, rfl, rfl, Lib.hid ⟨Nat.le_refl _, by rw [HNS.out]; rfl, by rw [HH6.out]; exact Nat.le_refl _, by rw [HQ.out]; omega, fun l h1 h2 => absurd h2 (by omega)⟩, HB5, Chg.refl _ _⟩
 case round =>
  obtain ⟨k, i, n, J, rfl, rfl, HK, HB, hc⟩ := hrel
  cases k with
  | zero =>
   have hk0 : ((0 : Int) ≤ ((0 : Nat) : Int) - 1) = False := eq_false (by omega)
   have g5 := HB.out
   have g4 := HB4.out.chg hc (by simp)
   have o0 := g5.cell 0
   have o1 := g5.cell 1
   have o2 := g5.cell 2
   have o3 := g5.cell 3
   have o4 := g5.cell 4
   have o5 := g5.cell 5
   have r0 := g4.cell 0
   have r1 := g4.cell 1
   have r2 := g4.cell 2
   have r3 := g4.cell 3
   have r4 := g4.cell 4
   have r5 := g4.cell 5
   have f0 := g4.free 0
   have f1 := g4.free 1
   have f2 := g4.free 2
   have f3 := g4.free 3
   have f4 := g4.free 4
   have f5 := g4.free 5
   simp [oc, pv, List.range, List.range.loop] at o0 o1 o2 o3 o4 o5 r0 r1 r2 r3 r4 r5
   have HC := Lib.hid (show Chg [w.heap.size + 1, w.heap.size + 2] w wr from (Chg.of_below HW.out _).trans (hc.mono (G := [w.heap.size + 1, w.heap.size + 2]) (fun g hg => .inl (by rw [List.mem_singleton.1 hg]; simp))) (fun g hg => .inl hg))
   clear g4 g5 hc HB
   go_wp2
   refine bodyPost_ret (v := .agg #[pv ns (J 0), pv ns (J 1), pv ns (J 2), pv ns (J 3), pv ns (J 4), pv ns (J 5)]) (by simp [results, go_sem, pv, *]) rfl ⟨J, fun l hl => HK.out.2.2.2.2 l (Nat.zero_le _) hl, rfl, ?_⟩
   exact ((((((HC.out.setCell _ (.inl (by simp))).setCell _ (.inl (by simp))).setCell _ (.inl (by simp))).setCell _ (.inl (by simp))).setCell _ (.inl (by simp))).setCell _ (.inl (by simp))).below (Nat.le_refl _) (fun g hg => by simp at hg; omega)
  | succ j =>
   have hj0 : (((j + 1 : Nat) : Int) - 1) = (j : Int) := by omega
   rw [hj0]
   have hjp : (0 : Int) ≤ (j : Int) := by omega
   have hwj : IntKind.i64.wrap (j : Int) = (j : Int) := IntWalk.i64_in _ (by have := HK.out.1; omega)
   have hsr := HS3.out.chg hc (fun g hg => by have := HGL.out g hg; rwa [HGS.out] at this)
   obtain ⟨n5, ⟨nl, nf⟩, nc, nc6⟩ := hsr.core.look (l := j) HK.out.2.1 (by have := HK.out.2.2.1; omega)
   have hjc : (j : Int) < (n.c : Int) := by omega
   have hld := apload_any n.tb j _ wr nl (hsr.core.ptr j (i + 1))
   have HLD := Lib.hid hld
   have HSR := Lib.hid hsr
   clear hld hsr nl nf
   go_wp2_with fail
   refine HLD.out.mono ?_
   rintro e w1 ⟨rfl, rfl⟩
   clear HLD
   go_wp2_with fail
   generalize hbe : nxb j (ns.drop (i + 1)) = be
   have HBE := Lib.hid hbe
   clear hbe
   go_loopw [6, 8] (fun at2 nx w2 => ∃ (i2 : Nat) (n2 : Nd) (b2 : Option Nat), at2 = .pointer (some ⟨n2.b, 0, none⟩) ∧ nx = .pointer (b2.map fun b => ⟨b, 0, none⟩) ∧ Hid (nxb j (ns.drop (i2 + 1)) = b2 ∧ ns[i2]? = some n2 ∧ j < n2.h ∧ i2 < q) ∧ Hid (BoxO w2 230 (w.heap.size + 2) (oc ns J (j + 1))) ∧ Chg [w.heap.size + 2] V w2) (fun at2 _ _ => rk ns at2)
   case atStart => exact ⟨i, n, be, rfl, rfl, Lib.hid ⟨HBE.out, HK.out.2.1, by have := HK.out.2.2.1; omega, HK.out.2.2.2.1⟩, HB, hc⟩
   case round =>
    clear HB HSR hc HBE n5 hjc nc nc6
    obtain ⟨i2, n2, b2, rfl, rfl, HK2, HB, hc⟩ := hrel
    have hsr := HS3.out.chg hc (fun g hg => by have := HGL.out g hg; rwa [HGS.out] at this)
    have hbx := HBX.out.chg hc (by simp)
    cases b2 with
    | none =>
     simp only [Option.map_none]
     go_wp2_with fail
     refine wp_region_held_drew (S := fun w' => Below wr.heap.size wr w') rfl (below_drew (Below.refl _ _)) (fun hSw => ?_)
     refine wpT (i := 0) (v := ?vkn0) ?hkn0 hSw ?kkn0
     case hkn0 => (intro w hSw; skip; go_simp; try (with_reducible rfl))
     go_simp
     refine wpT (i := 1) (v := ?vkn1) ?hkn1 hSw ?kkn1
     case hkn1 => (intro w hSw; skip; go_simp; try (with_reducible rfl))
     go_simp
     refine wpT (i := 2) (v := ?vkn2) ?hkn2 hSw ?kkn2
     case hkn2 => (intro w hSw; skip; go_simp; try (with_reducible rfl))
     go_simp
     refine wpT0 (i := 3) hSw ?_
     go_simp
     refine wpT0 (i := 4) hSw ?_
     go_simp
     refine wpT0 (i := 5) hSw ?_
     go_simp
     refine wpT0 (i := 6) hSw ?_
     go_simp
     refine wpT0 (i := 7) hSw ?_
     go_simp
     refine wpT0 (i := 8) hSw ?_
     go_simp
     refine wpT (i := 9) (v := ?vkn9) ?hkn9 hSw ?kkn9
     case hkn9 => (intro w hSw; skip; go_simp; try (with_reducible rfl))
     go_simp
     refine wpAnyH_done (by kernel_rfl) ?_ _
     have HP := Lib.hid (show Pred ns j q i2 from ⟨HK2.out.2.2.2, ⟨n2, HK2.out.2.1, HK2.out.2.2.1⟩, fun m n' h1 h2 h3 => nxt_none (nxb_none HK2.out.1) m n' h1 h3⟩)
     have hsv := hSw
     clear hSw hsr hbx
     generalize hXe : wr.drew = X at *
     clear hXe
     have hc3 : Chg [w.heap.size + 2] V X := hc.trans (Chg.of_below hsv [w.heap.size + 2]) (fun g hg => .inl hg)
     have hb3 := HB.out.below hsv
     have h56 : j < 6 := by have := HK.out.1; omega
     obtain ⟨u, hu⟩ := oc_at hb3 h56
     have hz := hb3.free j
     have hst : BoxO (X.setCell ⟨w.heap.size + 2, j, none⟩ (.pointer (some ⟨n2.b, 0, none⟩))) 230 (w.heap.size + 2) (oc ns (fun l => if l = j then i2 else J l) j) := by
      have e := hb3.store j (.pointer (some ⟨n2.b, 0, none⟩))
      have e2 := oc_set ns J j i2 h56
      rw [show pv ns i2 = Value.pointer (some ⟨n2.b, 0, none⟩) by unfold pv; rw [bk_of HK2.out.2.1]] at e2
      rw [← e2]
      exact e
     have hc4 : Chg [w.heap.size + 2] V (X.setCell ⟨w.heap.size + 2, j, none⟩ (.pointer (some ⟨n2.b, 0, none⟩))) := hc3.setCell _ (.inl (by simp))
     have hj6 : (j : Int) < 6 := by omega
     have HF := Lib.hid (And.intro (show ∀ l, j ≤ l → l < 6 → Pred ns l q (if l = j then i2 else J l) from fun l h1 h2 => by
      by_cases hl : l = j
      ·subst hl
       rw [if_pos rfl]
       exact HP.out
      ·rw [if_neg hl]
       exact HK.out.2.2.2.2 l (by omega) h2) (And.intro hst hc4))
     clear hb3 hst hc3 hc4 h56 hsv HP
     go_wp2
     go_roundw
     case rel => exact ⟨j, i2, n2, _, by go_num, rfl, Lib.hid ⟨by have := HK.out.1; omega, HK2.out.2.1, by have := HK2.out.2.2.1; omega, HK2.out.2.2.2, HF.out.1⟩, Lib.hid (by exact HF.out.2.1), HF.out.2.2⟩
     case measure => simp [intOf] <;> omega
    | some b =>
     obtain ⟨n3, h3, rfl⟩ := nxb_some HK2.out.1
     obtain ⟨k3, g1, g2, g3, g4⟩ := nxt_some h3
     have hls := HLS.out k3 n3 (by omega) g2
     rw [← HQ.out] at hls
     have hless := fun W => iless_any n3.x x W
     rw [hls] at hless
     have hnd := hsr.core.node n3 (List.mem_of_getElem? g2)
     generalize hxn : n3.x = y at *
     have hkc : ∀ w', Below wr.heap.size wr w' → (w'.cell? ⟨n3.b, 0, none⟩ = some (.int .i64 y.s) ∧ w'.cell? ⟨n3.b, 1, none⟩ = some (.int .i64 y.k) ∧ w'.cell? ⟨n3.b, 2, none⟩ = some (.int .u64 (y.t : Int)) ∧ w'.cell? ⟨n3.b, 3, none⟩ = some (.int .u64 (y.v : Int)) ∧ w'.cell? ⟨n3.b, 4, none⟩ = some (.int .i64 y.x)) ∧ (w'.cell? ⟨w.heap.size, 0, none⟩ = some (.int .i64 x.s) ∧ w'.cell? ⟨w.heap.size, 1, none⟩ = some (.int .i64 x.k) ∧ w'.cell? ⟨w.heap.size, 2, none⟩ = some (.int .u64 (x.t : Int)) ∧ w'.cell? ⟨w.heap.size, 3, none⟩ = some (.int .u64 (x.v : Int)) ∧ w'.cell? ⟨w.heap.size, 4, none⟩ = some (.int .i64 x.x)) := fun w' hb => by
      have e1 := hnd.below hb
      have e2 := hbx.below hb
      exact ⟨⟨e1.cell 0, e1.cell 1, e1.cell 2, e1.cell 3, e1.cell 4⟩, e2.cell 0, e2.cell 1, e2.cell 2, e2.cell 3, e2.cell 4⟩
     unfold It.val at hless
     by_cases hkq : k3 < q
     ·have hd1 : decide (k3 < q) = true := decide_eq_true hkq
      rw [hd1] at hless
      have HLS2 := Lib.hid hless
      have KC := Lib.hid hkc
      have H3 := Lib.hid (And.intro g2 g3)
      have H4 := Lib.hid g1
      have HSR := Lib.hid hsr
      clear hless hkc hls hd1 hxn hnd hbx hsr g1 g2 g3 g4 h3
      go_wp2_with fail
      simp only [Option.map_some]
      refine wp_region_held_drew (S := fun w' => Below wr.heap.size wr w') rfl (below_drew (Below.refl _ _)) (fun hSw => ?_)
      refine wpT (i := 0) (v := ?vka0) ?hka0 hSw ?kka0
      case hka0 => (intro w hSw; (obtain ⟨⟨y0, y1, y2, y3, y4⟩, x0, x1, x2, x3, x4⟩ := KC.out w hSw); go_simp; try (with_reducible rfl))
      go_simp
      refine wpT (i := 1) (v := ?vka1) ?hka1 hSw ?kka1
      case hka1 => (intro w hSw; (obtain ⟨⟨y0, y1, y2, y3, y4⟩, x0, x1, x2, x3, x4⟩ := KC.out w hSw); go_simp; try (with_reducible rfl))
      go_simp
      refine wpT (i := 2) (v := ?vka2) ?hka2 hSw ?kka2
      case hka2 => (intro w hSw; (obtain ⟨⟨y0, y1, y2, y3, y4⟩, x0, x1, x2, x3, x4⟩ := KC.out w hSw); go_simp; try (with_reducible rfl))
      go_simp
      refine wpT (i := 3) (v := ?vka3) ?hka3 hSw ?kka3
      case hka3 => (intro w hSw; (obtain ⟨⟨y0, y1, y2, y3, y4⟩, x0, x1, x2, x3, x4⟩ := KC.out w hSw); go_simp; try (with_reducible rfl))
      go_simp
      refine wpT (i := 4) (v := ?vka4) ?hka4 hSw ?kka4
      case hka4 => (intro w hSw; (obtain ⟨⟨y0, y1, y2, y3, y4⟩, x0, x1, x2, x3, x4⟩ := KC.out w hSw); go_simp; try (with_reducible rfl))
      go_simp
      refine wpT (i := 5) (v := ?vka5) ?hka5 hSw ?kka5
      case hka5 => (intro w hSw; (obtain ⟨⟨y0, y1, y2, y3, y4⟩, x0, x1, x2, x3, x4⟩ := KC.out w hSw); go_simp; try (with_reducible rfl))
      go_simp
      refine wpT (i := 6) (v := ?vka6) ?hka6 hSw ?kka6
      case hka6 => (intro w hSw; (obtain ⟨⟨y0, y1, y2, y3, y4⟩, x0, x1, x2, x3, x4⟩ := KC.out w hSw); go_simp; try (with_reducible rfl))
      go_simp
      refine wpT (i := 7) (v := ?vka7) ?hka7 hSw ?kka7
      case hka7 => (intro w hSw; (obtain ⟨⟨y0, y1, y2, y3, y4⟩, x0, x1, x2, x3, x4⟩ := KC.out w hSw); go_simp; try (with_reducible rfl))
      go_simp
      refine wpAnyH_ready (rs := [8]) (by kernel_rfl) (by simp) ?_
      refine AllReadyH.cons rfl (fun K hK => ?_) AllReadyH.nil
      go_simp
      with_reducible refine (HLS2.out _).mono ?_
      rintro e w3 ⟨rfl, hb3⟩
      go_simp
      refine hK.out _ _ (hSw.trans (hb3.mono hSw.size)) (fun hSn => ?_)
      clear hK K hSw
      have hSw := hSn
      clear hSn
      go_simp
      refine wpT (i := 9) (v := ?vka9) ?hka9 hSw ?kka9
      case hka9 => (intro w hSw; (obtain ⟨⟨y0, y1, y2, y3, y4⟩, x0, x1, x2, x3, x4⟩ := KC.out w hSw); go_simp; try (with_reducible rfl))
      go_simp
      refine wpAnyH_done (by kernel_rfl) ?_ _
      have hsv := hSw
      clear hSw KC HLS2
      have hsr := HSR.out.below hsv
      generalize w3 = X at *
      have hc3 : Chg [w.heap.size + 2] V X := hc.trans (Chg.of_below hsv [w.heap.size + 2]) (fun g hg => .inl hg)
      have hb3 := HB.out.below hsv
      obtain ⟨n5, ⟨nl, nf⟩, nc, nc6⟩ := hsr.core.look H3.out.1 H3.out.2
      have hjc : (j : Int) < (n3.c : Int) := by omega
      have hld := apload_any n3.tb j _ X nl (hsr.core.ptr j (k3 + 1))
      have HLD := Lib.hid hld
      have HF := Lib.hid (And.intro hb3 hc3)
      clear hld hsr nl nf hb3 hc3 HSR
      go_wp2_with fail
      refine HLD.out.mono ?_
      rintro e w1 ⟨rfl, rfl⟩
      clear HLD
      have hm : rk ns (.pointer (some ⟨n3.b, 0, none⟩)) < rk ns (.pointer (some ⟨n2.b, 0, none⟩)) := by
       rw [HS3.out.core.rk H3.out.1, HS3.out.core.rk HK2.out.2.1]
       have h1 := (List.getElem?_eq_some_iff.1 H3.out.1).1
       have h2 := H4.out
       omega
      go_wp2
      go_roundw
      case rel => exact ⟨k3, n3, _, rfl, rfl, Lib.hid ⟨rfl, H3.out.1, H3.out.2, hkq⟩, Lib.hid HF.out.1, HF.out.2⟩
      case measure => exact hm
     ·have hd1 : decide (k3 < q) = false := decide_eq_false hkq
      rw [hd1] at hless
      have HLS2 := Lib.hid hless
      have KC := Lib.hid hkc
      have HP := Lib.hid (show Pred ns j q i2 from ⟨HK2.out.2.2.2, ⟨n2, HK2.out.2.1, HK2.out.2.2.1⟩, fun m n' h1 h2 h3 => g4 m n' h1 (by omega) h3⟩)
      clear hless hkc hls hd1 hxn hnd hbx hsr g1 g2 g3 g4 h3
      go_wp2_with fail
      simp only [Option.map_some]
      refine wp_region_held_drew (S := fun w' => Below wr.heap.size wr w') rfl (below_drew (Below.refl _ _)) (fun hSw => ?_)
      refine wpT (i := 0) (v := ?vkb0) ?hkb0 hSw ?kkb0
      case hkb0 => (intro w hSw; (obtain ⟨⟨y0, y1, y2, y3, y4⟩, x0, x1, x2, x3, x4⟩ := KC.out w hSw); go_simp; try (with_reducible rfl))
      go_simp
      refine wpT (i := 1) (v := ?vkb1) ?hkb1 hSw ?kkb1
      case hkb1 => (intro w hSw; (obtain ⟨⟨y0, y1, y2, y3, y4⟩, x0, x1, x2, x3, x4⟩ := KC.out w hSw); go_simp; try (with_reducible rfl))
      go_simp
      refine wpT (i := 2) (v := ?vkb2) ?hkb2 hSw ?kkb2
      case hkb2 => (intro w hSw; (obtain ⟨⟨y0, y1, y2, y3, y4⟩, x0, x1, x2, x3, x4⟩ := KC.out w hSw); go_simp; try (with_reducible rfl))
      go_simp
      refine wpT (i := 3) (v := ?vkb3) ?hkb3 hSw ?kkb3
      case hkb3 => (intro w hSw; (obtain ⟨⟨y0, y1, y2, y3, y4⟩, x0, x1, x2, x3, x4⟩ := KC.out w hSw); go_simp; try (with_reducible rfl))
      go_simp
      refine wpT (i := 4) (v := ?vkb4) ?hkb4 hSw ?kkb4
      case hkb4 => (intro w hSw; (obtain ⟨⟨y0, y1, y2, y3, y4⟩, x0, x1, x2, x3, x4⟩ := KC.out w hSw); go_simp; try (with_reducible rfl))
      go_simp
      refine wpT (i := 5) (v := ?vkb5) ?hkb5 hSw ?kkb5
      case hkb5 => (intro w hSw; (obtain ⟨⟨y0, y1, y2, y3, y4⟩, x0, x1, x2, x3, x4⟩ := KC.out w hSw); go_simp; try (with_reducible rfl))
      go_simp
      refine wpT (i := 6) (v := ?vkb6) ?hkb6 hSw ?kkb6
      case hkb6 => (intro w hSw; (obtain ⟨⟨y0, y1, y2, y3, y4⟩, x0, x1, x2, x3, x4⟩ := KC.out w hSw); go_simp; try (with_reducible rfl))
      go_simp
      refine wpT (i := 7) (v := ?vkb7) ?hkb7 hSw ?kkb7
      case hkb7 => (intro w hSw; (obtain ⟨⟨y0, y1, y2, y3, y4⟩, x0, x1, x2, x3, x4⟩ := KC.out w hSw); go_simp; try (with_reducible rfl))
      go_simp
      refine wpAnyH_ready (rs := [8]) (by kernel_rfl) (by simp) ?_
      refine AllReadyH.cons rfl (fun K hK => ?_) AllReadyH.nil
      go_simp
      with_reducible refine (HLS2.out _).mono ?_
      rintro e w3 ⟨rfl, hb3⟩
      go_simp
      refine hK.out _ _ (hSw.trans (hb3.mono hSw.size)) (fun hSn => ?_)
      clear hK K hSw
      have hSw := hSn
      clear hSn
      go_simp
      refine wpT (i := 9) (v := ?vkb9) ?hkb9 hSw ?kkb9
      case hkb9 => (intro w hSw; (obtain ⟨⟨y0, y1, y2, y3, y4⟩, x0, x1, x2, x3, x4⟩ := KC.out w hSw); go_simp; try (with_reducible rfl))
      go_simp
      refine wpAnyH_done (by kernel_rfl) ?_ _
      have hsv := hSw
      clear hSw KC HLS2
      generalize hXe : w3 = X at *
      clear hXe
      have hc3 : Chg [w.heap.size + 2] V X := hc.trans (Chg.of_below hsv [w.heap.size + 2]) (fun g hg => .inl hg)
      have hb3 := HB.out.below hsv
      have h56 : j < 6 := by have := HK.out.1; omega
      obtain ⟨u, hu⟩ := oc_at hb3 h56
      have hz := hb3.free j
      have hst : BoxO (X.setCell ⟨w.heap.size + 2, j, none⟩ (.pointer (some ⟨n2.b, 0, none⟩))) 230 (w.heap.size + 2) (oc ns (fun l => if l = j then i2 else J l) j) := by
       have e := hb3.store j (.pointer (some ⟨n2.b, 0, none⟩))
       have e2 := oc_set ns J j i2 h56
       rw [show pv ns i2 = Value.pointer (some ⟨n2.b, 0, none⟩) by unfold pv; rw [bk_of HK2.out.2.1]] at e2
       rw [← e2]
       exact e
      have hc4 : Chg [w.heap.size + 2] V (X.setCell ⟨w.heap.size + 2, j, none⟩ (.pointer (some ⟨n2.b, 0, none⟩))) := hc3.setCell _ (.inl (by simp))
      have hj6 : (j : Int) < 6 := by omega
      have HF := Lib.hid (And.intro (show ∀ l, j ≤ l → l < 6 → Pred ns l q (if l = j then i2 else J l) from fun l h1 h2 => by
       by_cases hl : l = j
       ·subst hl
        rw [if_pos rfl]
        exact HP.out
       ·rw [if_neg hl]
        exact HK.out.2.2.2.2 l (by omega) h2) (And.intro hst hc4))
      clear hb3 hst hc3 hc4 h56 hsv HP
      go_wp2
      go_roundw
      case rel => exact ⟨j, i2, n2, _, by go_num, rfl, Lib.hid ⟨by have := HK.out.1; omega, HK2.out.2.1, by have := HK2.out.2.2.1; omega, HK2.out.2.2.2, HF.out.1⟩, Lib.hid (by exact HF.out.2.1), HF.out.2.2⟩
      case measure => simp [intOf] <;> omega
end
section
open Go Go.RowKit Go.Lib
theorem nd_apart : ∀ (ns : List Nd) (i j : Nat) (n m : Nd), (ns.flatMap fun n => [n.b, n.tb]).Nodup → ns[i]? = some n → ns[j]? = some m → (n.b = m.b → i = j) ∧ (n.tb = m.tb → i = j) ∧ n.b ≠ m.tb := by
 intro ns
 induction ns with
 | nil => intro i j n m _ hi; simp at hi
 | cons a r ih =>
  intro i j n m hd hi hj
  simp only [List.flatMap_cons, List.cons_append, List.nil_append, List.nodup_cons, List.mem_cons, not_or] at hd
  obtain ⟨⟨h1, h2⟩, h3, h4⟩ := hd
  have hin : ∀ (k : Nat) (u : Nd), r[k]? = some u → u.b ≠ a.b ∧ u.tb ≠ a.b ∧ u.b ≠ a.tb ∧ u.tb ≠ a.tb := fun k u hu =>
   ⟨fun e => h2 (List.mem_flatMap.2 ⟨u, List.mem_of_getElem? hu, by simp [e]⟩), fun e => h2 (List.mem_flatMap.2 ⟨u, List.mem_of_getElem? hu, by simp [e]⟩), fun e => h3 (List.mem_flatMap.2 ⟨u, List.mem_of_getElem? hu, by simp [e]⟩), fun e => h3 (List.mem_flatMap.2 ⟨u, List.mem_of_getElem? hu, by simp [e]⟩)⟩
  cases i with
  | zero =>
   cases j with
   | zero =>
    simp only [gE0, Option.some.injEq] at hi hj
    subst hi hj
    exact ⟨fun _ => rfl, fun _ => rfl, h1⟩
   | succ j =>
    simp only [gE0, Option.some.injEq, gE1] at hi hj
    subst hi
    obtain ⟨a1, a2, a3, a4⟩ := hin j m hj
    exact ⟨fun e => absurd e.symm a1, fun e => absurd e.symm a4, fun e => a2 e.symm⟩
  | succ i =>
   cases j with
   | zero =>
    simp only [gE0, Option.some.injEq, gE1] at hi hj
    subst hj
    obtain ⟨a1, a2, a3, a4⟩ := hin i n hi
    exact ⟨fun e => absurd e a1, fun e => absurd e a4, a3⟩
   | succ j =>
    simp only [gE1] at hi hj
    obtain ⟨b1, b2, b3⟩ := ih i j n m h4 hi hj
    exact ⟨fun e => by rw [b1 e], fun e => by rw [b2 e], b3⟩
variable {w w' : World} {L l j : Nat} {ns A R : List Nd} {n p : Nd}
theorem SkC.raise (h : SkC w (A ++ n :: R)) (hn : n.h = l) (hl : l < n.c) (hj : Pred (A ++ n :: R) l A.length j) (hp : (A ++ n :: R)[j]? = some p) :
  SkC ((w.setCell ⟨n.tb, l, none⟩ (.pointer ((nxb l ((A ++ n :: R).drop (j + 1))).map fun b => ⟨b, 0, none⟩))).setCell ⟨p.tb, l, none⟩ (.pointer (some ⟨n.b, 0, none⟩))) (A ++ { n with h := l + 1 } :: R) := by
 have hjl := hj.lt
 have hnA : (A ++ n :: R)[A.length]? = some n := by simp
 obtain ⟨p', hp', hpl⟩ := hj.on
 obtain rfl : p' = p := by rw [hp] at hp'; exact (Option.some.inj hp').symm
 have hap := fun (i k : Nat) (a b : Nd) => nd_apart (A ++ n :: R) i k a b h.apart
 have hpn : p'.tb ≠ n.tb := fun e => by have := (hap j A.length p' n hp hnA).2.1 e; omega
 have hc : Chg [n.tb, p'.tb] w ((w.setCell ⟨n.tb, l, none⟩ (.pointer ((nxb l ((A ++ n :: R).drop (j + 1))).map fun b => ⟨b, 0, none⟩))).setCell ⟨p'.tb, l, none⟩ (.pointer (some ⟨n.b, 0, none⟩))) := ((Chg.refl _ w).setCell _ (.inl (by simp))).setCell _ (.inl (by simp))
 have hmem : ∀ (i : Nat) (m : Nd), i ≠ A.length → ((A ++ { n with h := l + 1 } :: R)[i]? = some m ↔ (A ++ n :: R)[i]? = some m) := fun i m hi => by
  rcases Nat.lt_or_ge i A.length with h1 | h1
  ·rw [List.getElem?_append_left h1, List.getElem?_append_left h1]
  ·rw [List.getElem?_append_right h1, List.getElem?_append_right h1]
   obtain ⟨d, hd⟩ : ∃ d, i - A.length = d + 1 := ⟨i - A.length - 1, by omega⟩
   rw [hd, gE1, gE1]
 have hmA : (A ++ { n with h := l + 1 } :: R)[A.length]? = some { n with h := l + 1 } := by simp
 have hr := fun (i l' : Nat) (m : Nd) (hm : (A ++ { n with h := l + 1 } :: R)[i]? = some m) (hl' : l' < m.h) => Go.Proofs.YtdkjoigpahafmaaGreatDoor.raise (n' := { n with h := l + 1 }) hj hn rfl rfl i l' m hm hl'
 refine ⟨fun m hm => ?_, fun i m hi => ?_, fun m hm => ?_, ?_⟩
 ·obtain ⟨i, hi⟩ := List.mem_iff_getElem?.1 hm
  by_cases hiA : i = A.length
  ·subst hiA
   rw [hmA] at hi
   obtain rfl := Option.some.inj hi
   refine (h.node n (List.mem_of_getElem? hnA)).chg hc ?_
   simp only [List.mem_cons, List.not_mem_nil, or_false, not_or]
   exact ⟨(hap _ _ _ _ hnA hnA).2.2, (hap _ _ _ _ hnA hp).2.2⟩
  ·rw [hmem i m hiA] at hi
   refine (h.node m (List.mem_of_getElem? hi)).chg hc ?_
   simp only [List.mem_cons, List.not_mem_nil, or_false, not_or]
   exact ⟨(hap _ _ _ _ hi hnA).2.2, (hap _ _ _ _ hi hp).2.2⟩
 ·by_cases hiA : i = A.length
  ·subst hiA
   rw [hmA] at hi
   obtain rfl := Option.some.inj hi
   obtain ⟨cs, h1, h2, h3⟩ := h.tower A.length n hnA
   refine ⟨_, (h1.store l _).chg (chg_set _ ⟨p'.tb, l, none⟩ _) (by simpa using fun e => hpn e.symm), by rw [List.length_set]; exact h2, fun l' hl' => ?_⟩
   rw [hr A.length l' _ hmA hl', if_neg (by omega)]
   by_cases hll : l' = l
   ·subst hll
    rw [if_pos ⟨rfl, rfl⟩, List.getElem?_set_self (by omega)]
   ·rw [if_neg (by omega), List.getElem?_set_ne (by omega)]
    simp only at hl'
    exact h3 l' (by omega)
  ·have hi2 := (hmem i m hiA).1 hi
   obtain ⟨cs, h1, h2, h3⟩ := h.tower i m hi2
   by_cases hij : i = j
   ·subst hij
    rw [hp] at hi2
    obtain rfl := Option.some.inj hi2
    refine ⟨_, (h1.chg (chg_set w ⟨n.tb, l, none⟩ _) (by simpa using hpn)).store l _, by rw [List.length_set]; exact h2, fun l' hl' => ?_⟩
    rw [hr i l' _ hi hl']
    have := (h.cap p' (List.mem_of_getElem? hp)).1
    by_cases hll : l' = l
    ·subst hll
     rw [if_pos ⟨rfl, rfl⟩, List.getElem?_set_self (by omega)]
     rfl
    ·rw [if_neg (by omega), if_neg (by omega), List.getElem?_set_ne (by omega)]
     exact h3 l' hl'
   ·refine ⟨cs, h1.chg hc ?_, h2, fun l' hl' => ?_⟩
    ·simp only [List.mem_cons, List.not_mem_nil, or_false, not_or]
     exact ⟨fun e => hiA ((hap _ _ _ _ hi2 hnA).2.1 e), fun e => hij ((hap _ _ _ _ hi2 hp).2.1 e)⟩
    ·rw [hr i l' _ hi hl', if_neg (by omega), if_neg (by omega)]
     exact h3 l' hl'
 ·obtain ⟨i, hi⟩ := List.mem_iff_getElem?.1 hm
  by_cases hiA : i = A.length
  ·subst hiA
   rw [hmA] at hi
   obtain rfl := Option.some.inj hi
   exact ⟨hl, (h.cap n (List.mem_of_getElem? hnA)).2⟩
  ·exact h.cap m (List.mem_of_getElem? ((hmem i m hiA).1 hi))
 ·have := h.apart
  simpa using this
theorem SkC.insert (h : SkC w (A ++ R)) (hn : n.h = 0) (hc : n.c ≤ 6) (hb : BoxO w 238 n.b (n.x.cells ++ [.slice (some ⟨n.tb, 0, none⟩) n.c n.c])) (ht : BoxO w 235 n.tb (List.replicate n.c (.pointer none))) (hne : n.b ≠ n.tb)
  (h1 : n.b ∉ (A ++ R).flatMap fun n => [n.b, n.tb]) (h2 : n.tb ∉ (A ++ R).flatMap fun n => [n.b, n.tb]) : SkC w (A ++ n :: R) := by
 have hin : ∀ m, m ∈ A ++ n :: R ↔ m = n ∨ m ∈ A ++ R := fun m => by simp [or_left_comm]
 refine ⟨fun m hm => ?_, fun i m hi => ?_, fun m hm => ?_, ?_⟩
 ·rcases (hin m).1 hm with rfl | h3
  ·exact hb
  ·exact h.node m h3
 ·have key : ∀ l, nxb l ((A ++ n :: R).drop (i + 1)) = nxb l ((A ++ R).drop (if i < A.length then i + 1 else i)) := fun l => by
   rcases Nat.lt_or_ge i A.length with h3 | h3
   ·rw [if_pos h3, List.drop_append_of_le_length (by omega), List.drop_append_of_le_length (by omega)]
    exact nxb_add hn
   ·have e1 : A.drop (i + 1) = [] := List.drop_eq_nil_of_le (by omega)
    have e2 : A.drop i = [] := List.drop_eq_nil_of_le (by omega)
    rw [if_neg (by omega), List.drop_append, List.drop_append, e1, e2, List.nil_append, List.nil_append, show i + 1 - A.length = (i - A.length) + 1 by omega, List.drop_succ_cons]
  rcases Nat.lt_trichotomy i A.length with h3 | h3 | h3
  ·rw [List.getElem?_append_left h3] at hi
   obtain ⟨cs, a, b, c⟩ := h.tower i m (by rw [List.getElem?_append_left h3]; exact hi)
   exact ⟨cs, a, b, fun l hl => by rw [key, if_pos h3]; exact c l hl⟩
  ·subst h3
   rw [List.getElem?_append_right (Nat.le_refl _), Nat.sub_self, gE0] at hi
   obtain rfl := Option.some.inj hi
   exact ⟨_, ht, by simp, fun l hl => by omega⟩
  ·obtain ⟨k, rfl⟩ : ∃ k, i = A.length + k + 1 := ⟨i - A.length - 1, by omega⟩
   rw [List.getElem?_append_right (by omega), show A.length + k + 1 - A.length = k + 1 by omega, gE1] at hi
   obtain ⟨cs, a, b, c⟩ := h.tower (A.length + k) m (by rw [List.getElem?_append_right (by omega), show A.length + k - A.length = k by omega]; exact hi)
   exact ⟨cs, a, b, fun l hl => by rw [key, if_neg (by omega)]; exact c l hl⟩
 ·rcases (hin m).1 hm with rfl | h3
  ·exact ⟨by omega, hc⟩
  ·exact h.cap m h3
 ·have h3 := h.apart
  rw [List.flatMap_append] at h3 h1 h2 ⊢
  rw [List.flatMap_cons]
  refine (List.perm_append_comm_assoc _ _ _).nodup_iff.2 ?_
  simp only [List.cons_append, List.nil_append, List.nodup_cons, List.mem_cons, not_or]
  exact ⟨⟨hne, h1⟩, h2, h3⟩
theorem SkAt.setx {k : Nat} {x : It} (h : SkAt w L ns) (hk : ns[k + 1]? = some n) (hR : Rises ((its ns).set k x)) (c : Chg [n.b] w w') (hb : BoxO w' 238 n.b (x.cells ++ [.slice (some ⟨n.tb, 0, none⟩) n.c n.c])) :
  SkAt w' L (ns.set (k + 1) { n with x := x }) ∧ its (ns.set (k + 1) { n with x := x }) = (its ns).set k x ∧ skF L (ns.set (k + 1) { n with x := x }) = skF L ns := by
 have hkl : k + 1 < ns.length := (List.getElem?_eq_some_iff.1 hk).1
 have hkg : ns[k + 1] = n := (List.getElem?_eq_some_iff.1 hk).2
 have hfl : ∀ ns : List Nd, ∀ (k : Nat) (n : Nd), ns[k]? = some n → (ns.set k { n with x := x }).flatMap (fun n => [n.b, n.tb]) = ns.flatMap fun n => [n.b, n.tb] := by
  intro ns
  induction ns with
  | nil => intro k n h; simp at h
  | cons a r ih =>
   intro k n h
   cases k with
   | zero =>
    simp only [gE0, Option.some.injEq] at h
    subst h
    simp
   | succ k =>
    rw [gE1] at h
    simp [ih k n h]
 have hnx : ∀ ns : List Nd, ∀ (k l i : Nat) (n : Nd), ns[k]? = some n → nxb l ((ns.set k { n with x := x }).drop i) = nxb l (ns.drop i) := by
  intro ns k l i n h
  have hl : k < ns.length := (List.getElem?_eq_some_iff.1 h).1
  have hg : ns[k] = n := (List.getElem?_eq_some_iff.1 h).2
  rcases Nat.lt_or_ge k i with h1 | h1
  ·rw [List.drop_set_of_lt h1]
  ·rw [List.drop_set, if_neg (by omega), List.set_eq_take_append_cons_drop, if_pos (by rw [List.length_drop]; omega)]
   have e : ns.drop i = (ns.drop i).take (k - i) ++ n :: (ns.drop i).drop (k - i + 1) := by
    have h2 : k - i < (ns.drop i).length := by rw [List.length_drop]; omega
    have h3 : (ns.drop i)[k - i] = n := by rw [List.getElem_drop, ← hg]; congr 1; omega
    rw [← h3, List.getElem_cons_drop, List.take_append_drop]
   conv => rhs; rw [e]
   exact nxb_same rfl Iff.rfl
 have hap := fun (i : Nat) (a : Nd) (hi : ns[i]? = some a) => nd_apart ns i (k + 1) a n h.core.apart hi hk
 have hits : its (ns.set (k + 1) { n with x := x }) = (its ns).set k x := by
  unfold its
  rw [List.drop_set, if_neg (by omega), Nat.add_sub_cancel, List.map_set]
 have hget : ∀ (i : Nat) (m : Nd), (ns.set (k + 1) { n with x := x })[i]? = some m → (i = k + 1 ∧ m = { n with x := x }) ∨ (i ≠ k + 1 ∧ ns[i]? = some m) := fun i m hi => by
  by_cases hik : i = k + 1
  ·subst hik
   rw [List.getElem?_set_self (by omega)] at hi
   exact .inl ⟨rfl, (Option.some.inj hi).symm⟩
  ·rw [List.getElem?_set_ne (by omega)] at hi
   exact .inr ⟨hik, hi⟩
 have hnt : n.tb ∉ [n.b] := by
  have := (hap (k + 1) n hk).2.2
  simpa using this.symm
 obtain ⟨hd, tl, hns, h6, hL⟩ := h.head
 have hLb : L ∉ [n.b] := fun e => h.out (List.mem_flatMap.2 ⟨n, List.mem_of_getElem? hk, by rw [List.mem_singleton.1 e]; simp⟩)
 refine ⟨⟨⟨fun m hm => ?_, fun i m hi => ?_, fun m hm => ?_, ?_⟩, ⟨hd, tl.set k { n with x := x }, by rw [hns, List.set_cons_succ], h6, by rw [List.length_set]; exact hL.chg c hLb⟩, ?_, fun m hm => ?_, ?_⟩, hits, ?_⟩
 ·obtain ⟨i, hi⟩ := List.mem_iff_getElem?.1 hm
  rcases hget i m hi with ⟨rfl, rfl⟩ | ⟨h1, h2⟩
  ·exact hb
  ·exact (h.core.node m (List.mem_of_getElem? h2)).chg c (by simpa using fun e => h1 ((hap i m h2).1 e))
 ·rcases hget i m hi with ⟨rfl, rfl⟩ | ⟨h1, h2⟩
  ·obtain ⟨cs, a1, a2, a3⟩ := h.core.tower _ n hk
   exact ⟨cs, a1.chg c hnt, a2, fun l hl => by rw [hnx ns (k + 1) l _ n hk]; exact a3 l hl⟩
  ·obtain ⟨cs, a1, a2, a3⟩ := h.core.tower i m h2
   exact ⟨cs, a1.chg c (by simpa using fun e => (nd_apart ns (k + 1) i n m h.core.apart hk h2).2.2 e.symm), a2, fun l hl => by rw [hnx ns (k + 1) l _ n hk]; exact a3 l hl⟩
 ·obtain ⟨i, hi⟩ := List.mem_iff_getElem?.1 hm
  rcases hget i m hi with ⟨rfl, rfl⟩ | ⟨h1, h2⟩
  ·exact h.core.cap n (List.mem_of_getElem? hk)
  ·exact h.core.cap m (List.mem_of_getElem? h2)
 ·rw [hfl ns (k + 1) n hk]
  exact h.core.apart
 ·rw [hfl ns (k + 1) n hk]
  exact h.out
 ·obtain ⟨i, hi⟩ := List.mem_iff_getElem?.1 hm
  rcases hget i m hi with ⟨rfl, rfl⟩ | ⟨h1, h2⟩
  ·exact h.tall n (List.mem_of_getElem? hk)
  ·exact h.tall m (List.mem_of_getElem? h2)
 ·rw [hits]
  exact hR
 ·unfold skF
  rw [hfl ns (k + 1) n hk]
end
end Go.Proofs.YtdkjoigpahafmaaGreatDoor
