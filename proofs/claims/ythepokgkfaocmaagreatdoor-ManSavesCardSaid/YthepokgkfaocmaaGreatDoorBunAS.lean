/- Texts PlainMout, PlainMst, PlainCrash, CrashP in one. No conditions. -/
import Derived.Test.YthepokgkfaocmaaGreatDoorBunAR
import Derived.Test.YthepokgkfaocmaaGreatDoorBunAL
import Derived.Test.YthepokgkfaocmaaGreatDoorBunAI

/-
  What becomes of a manifest's disk when a rewrite, or a Save, ends or is cut at any call.
-/
namespace Go.Proofs.YthepokgkfaocmaaGreatDoor
open Go Go.RowKit
open Co

namespace Sd
variable {d : Sd} {s b : List UInt8}
theorem co_names (d : Sd) : d.co.names = d.names := rfl
theorem co_files (d : Sd) : d.co.files = d.files := rfl
theorem remove_any (h : d.co.In) (s : List UInt8) : Ct.Reach d.ct (d.remove s).1.ct ∧ Keeps (· = s) [] d.co (d.remove s).1.co 0 0 := by
  by_cases hs : named s = true
  · obtain ⟨c1, c2, c3⟩ := d.call_ct (l := [s]) (by simpa using hs)
    have hr := Ct.Reach.one d.ct
    cases hg : d.names.get s with
    | none =>
      unfold remove
      by_cases h0 : (d.call [s]).2 = 0
      · rw [if_neg (by simp [h0]), if_pos (by simp [hg])]
        exact ⟨by rw [c2]; exact hr, by rw [c1]; exact Keeps.refl h _ _⟩
      · rw [if_pos h0]
        exact ⟨by rw [c2]; exact hr, by rw [c1]; exact Keeps.refl h _ _⟩
    | some i =>
      obtain ⟨e1, e2, e3⟩ := remove_ct hs hg
      refine ⟨by rw [e2]; exact hr, ?_⟩
      rw [e3]
      split
      · exact keeps_remove h hg
      · exact Keeps.refl h _ _
  · have hc : d.call [s] = (d, 10) := by unfold call; rw [if_pos (by simpa using hs)]
    unfold remove
    rw [hc, if_pos (by simp)]
    exact ⟨Ct.Reach.refl _, Keeps.refl h _ _⟩
theorem write_out (h : d.co.In) (hs : named s = true) (hg : d.names.get s = none) (hm : d.co.most < 64) (hb : b.length ≤ 250000) (hq : d.co.total + b.length ≤ d.quota) :
    Ct.Ends d.ct (d.write s b).1.ct (d.write s b).2 ∧ Keeps (· = s) [s] d.co (d.write s b).1.co 1 b.length ∧ ((d.write s b).2 = 0 → (d.write s b).1.co.Now s b b.length) := by
  have hl := length_most h
  obtain ⟨c1, c2, c3⟩ := create_ct hs hg (by have : d.names.length ≤ d.co.most := hl; omega)
  unfold write
  by_cases h0 : d.ct.call.2 = 0
  · rw [if_pos h0] at c3
    rw [if_neg (by rw [c1, h0]; simp)]
    have k1 := keeps_create h hg
    rw [← c3] at k1
    obtain ⟨i, g1, f1⟩ := create_new h s
    rw [← c3] at g1 f1
    have hr1 : Ct.Reach d.ct (d.create s).1.ct := by rw [c2]; exact Ct.Reach.one _
    generalize (d.create s).1 = d1 at *
    have hu := used_total k1.in_
    have hq1 : d1.quota = d.quota := k1.quota
    have ht1 := k1.total
    obtain ⟨a1, a2, a3⟩ := append_ct (b := b) hs g1 f1 (by simpa using hb) (by omega)
    by_cases h2 : d1.ct.call.2 = 0
    · rw [if_pos h2] at a3
      rw [if_neg (by rw [a1, h2]; simp)]
      have k2 := keeps_set (g := (([] : List UInt8) ++ b, 0)) k1.in_ g1 f1
      rw [← a3] at k2
      have n2 := Co.Now.set (f := (([] : List UInt8) ++ b, 0)) g1 (List.getElem?_eq_some_iff.1 f1).1
      rw [← a3] at n2
      obtain ⟨j, g2, f2⟩ := n2
      have hr2 : Ct.Reach d.ct (d1.append s b).1.ct := by rw [a2]; exact hr1.step
      generalize (d1.append s b).1 = d2 at *
      obtain ⟨b1, b2, b3⟩ := sync_ct hs g2 f2
      have hk2 : Keeps (· = s) [s] d.co d2.co 1 b.length := (k1.trans (k2.mono (fun _ h => h) (fun _ h => by cases h) (Nat.le_refl _) (Nat.le_refl _))).mono (fun _ h => h) (fun _ h => h) (by omega) (by simp)
      refine ⟨by rw [b1, b2]; exact Ct.Ends.after hr2 (Ct.Ends.one _), ?_, fun h3 => ?_⟩
      · rw [b3]
        split
        · exact (hk2.trans ((keeps_set (g := (([] : List UInt8) ++ b, (([] : List UInt8) ++ b).length)) k2.in_ g2 f2).mono (fun _ h => h) (fun _ h => by cases h) (Nat.le_refl _) (Nat.le_refl _))).mono (fun _ h => h) (fun _ h => h) (by omega) (by simp)
        · exact hk2
      · rw [b1] at h3
        rw [b3, if_pos h3]
        exact Co.Now.set (f := (([] : List UInt8) ++ b, (([] : List UInt8) ++ b).length)) g2 (List.getElem?_eq_some_iff.1 f2).1
    · rw [if_neg h2] at a3
      rw [if_pos (by rw [a1]; exact h2)]
      refine ⟨by rw [a1, a2]; exact Ct.Ends.after hr1 (Ct.Ends.one _), by rw [a3]; exact k1.mono (fun _ h => h) (fun _ h => h) (Nat.le_refl _) (Nat.zero_le _), fun h3 => absurd (by rw [← a1]; exact h3) h2⟩
  · rw [if_neg h0] at c3
    rw [if_pos (by rw [c1]; exact h0)]
    refine ⟨by rw [c1, c2]; exact Ct.Ends.one _, by rw [c3]; exact (Keeps.refl h _ _).mono (fun _ h => h) (fun _ h => h) (Nat.zero_le _) (Nat.zero_le _), fun h3 => absurd (by rw [← c1]; exact h3) h0⟩
end Sd

namespace Co
variable {c c' : Co} {s t : List UInt8} {l : Nat}
theorem Cr.at_ {i : Nat} (h : Cr c c') (hg : c'.names.get s = some i) (d : c.files[i]? = some (t, l)) (hl : l ≤ t.length) : ∃ m, l ≤ m ∧ m ≤ t.length ∧ c'.Held s (t.take m) m := by
  obtain ⟨f', f1, f2, f3⟩ := h.file i _ d
  obtain ⟨m, m1, m2, rfl⟩ := f3 ⟨_, Nm.get_mem hg, rfl⟩ hl
  exact ⟨m, m1, m2, i, hg, by rw [h.same]; exact hg, f1, by rw [h.turns]; simp⟩
theorem Cr.full (h : Cr c c') (hi : c.In) (k : c.Held s t t.length) : c'.Held s t t.length := by
  obtain ⟨m, m1, m2, k2⟩ := h.held hi k (Nat.le_refl _)
  have : m = t.length := by omega
  subst this
  rwa [List.take_length] at k2
/-- Behind the renaming of one lasting name to another, on a disk whose names last. -/
theorem ren_cr {a b ta tb : List UInt8} (hi : c.In) (ht : c.turns = []) (hab : a ≠ b) (ka : c.Held a ta ta.length) (kb : c.Held b tb tb.length) (h : Cr (c.rename a b) c') : c'.Held b ta ta.length ∨ c'.Held b tb tb.length := by
  obtain ⟨us, hs, hn⟩ := h.names
  have e : (c.rename a b).turns = [⟨2, 0, a, b⟩] := by simp [Co.rename, ht]
  rw [e] at hs
  obtain ⟨i, a1, a2, a3, _⟩ := ka
  obtain ⟨j, b1, b2, b3, _⟩ := kb
  have full : ∀ {x : Nat} {y : List UInt8}, c'.names.get b = some x → c.files[x]? = some (y, y.length) → c'.Held b y y.length := fun hg hf => by
    obtain ⟨m, m1, m2, k2⟩ := h.at_ hg hf (Nat.le_refl _)
    have : m = _ := Nat.le_antisymm m2 m1
    subst this
    rwa [List.take_length] at k2
  cases us with
  | nil =>
    refine .inr (full (x := j) ?_ b3)
    rw [hn]
    exact b2
  | cons u r =>
    have hl := hs.length_le
    have hr : r = [] := by
      cases r with
      | nil => rfl
      | cons _ _ => simp at hl
    subst hr
    have hu : u = ⟨2, 0, a, b⟩ := by
      have := hs.subset (List.mem_singleton.2 rfl)
      simpa using this
    subst hu
    refine .inl (full (x := i) ?_ a3)
    rw [hn]
    simp only [List.foldl_cons, List.foldl_nil, Co.rename]
    unfold Tn.go
    simp only [show ¬ (2 = 1) by decide, if_false, if_true, a2]
    rw [Nm.get_del_other (Nm.apart_put hi.lapart _ _) hab.symm, Nm.get_put_same hi.lapart]
end Co

namespace Mw
open Mn
/-- Names that a rewrite may touch. -/
def NR (u : List UInt8) : Prop := u = kTemp ∨ u = kCur ∨ (number u kMan).isSome = true
theorem sweep_out (nm : List UInt8) : ∀ (l : List (List UInt8)) (d : Sd), d.co.In → Ct.Reach d.ct (sweep nm l d).ct ∧ Keeps (fun u => u ≠ nm ∧ (number u kMan).isSome = true) [] d.co (sweep nm l d).co 0 0
  | [], d, h => ⟨Ct.Reach.refl _, Keeps.refl h _ _⟩
  | o :: r, d, h => by
    unfold sweep
    split
    · rename_i hc
      simp only [Bool.and_eq_true, Bool.not_eq_true', beq_eq_false_iff_ne] at hc
      obtain ⟨a1, a2⟩ := Sd.remove_any h o
      obtain ⟨b1, b2⟩ := sweep_out nm r (d.remove o).1 a2.in_
      exact ⟨a1.trans b1, (a2.mono (fun u hu => ⟨by rw [hu]; exact hc.2, by rw [hu]; exact hc.1⟩) (fun _ h => h) (Nat.le_refl _) (Nat.le_refl _)).trans b2⟩
    · exact sweep_out nm r d h
end Mw

namespace Gw
open Mn
open Mw (kCur kTemp headB sweep man NR man_cur man_temp cur_temp man_named cur_named temp_named number_man number_cur number_temp man_inj)
variable {d : Sd} {M : Gs} {nm : List UInt8}
/-- The last step of a rewrite. -/
theorem fin_out {k : Nat} {b : List UInt8} (hk1 : 1 ≤ k) (hk2 : k ≤ 1073741824) (h : d.co.In) (hc : d.co.Now kCur (headB k) (headB k).length) (hb : d.co.Now (man k) b b.length) :
    Ct.Ends d.ct (fin d M (man k)).1.ct (fin d M (man k)).2.2 ∧
    (((fin d M (man k)).2.2 = 0 ∧ (fin d M (man k)).2.1 = { M with name := man k, count := 1 } ∧ Keeps NR [] d.co (fin d M (man k)).1.co 0 0 ∧ (fin d M (man k)).1.co.most ≤ d.co.names.length ∧ (fin d M (man k)).1.co.Held kCur (headB k) (headB k).length ∧ (fin d M (man k)).1.co.Held (man k) b b.length) ∨
     ((fin d M (man k)).2.2 ≠ 0 ∧ (fin d M (man k)).2.1 = { M with name := man k, count := 1, broken := true } ∧ (fin d M (man k)).1.co = d.co)) := by
  obtain ⟨c1, c2, c3⟩ := Sd.syncDir_ct (d := d)
  unfold fin
  by_cases h0 : d.ct.call.2 = 0
  · rw [if_pos h0] at c3
    rw [if_neg (by rw [c1, h0]; simp)]
    have k1 := keeps_syncDir h
    rw [← c3] at k1
    have e1 := Co.syncDir_most d.co
    rw [← c3] at e1
    have hc1 := Co.Now.syncDir hc
    have hb1 := Co.Now.syncDir hb
    rw [← c3] at hc1 hb1
    have hr : Ct.Reach d.ct (d.syncDir).1.ct := by rw [c2]; exact Ct.Reach.one _
    generalize (d.syncDir).1 = d1 at *
    obtain ⟨s1, s2⟩ := Mw.sweep_out (man k) d1.list d1 k1.in_
    have hcn : ¬ (kCur ≠ man k ∧ (number kCur kMan).isSome = true) := fun x => by rw [number_cur] at x; exact absurd x.2 (by simp)
    refine ⟨Ct.Ends.none (hr.trans s1), .inl ⟨rfl, rfl, ?_, ?_, s2.held _ hcn _ _ hc1, s2.held _ (fun x => x.1 rfl) _ _ hb1⟩⟩
    · exact ((k1.mono (fun _ h => h.elim) (fun _ h => h) (Nat.le_refl _) (Nat.le_refl _)).trans (s2.mono (fun u hu => .inr (.inr hu.2)) (fun _ h => h) (Nat.le_refl _) (Nat.le_refl _)))
    · have := s2.most
      simp only at *
      omega
  · rw [if_neg h0] at c3
    rw [if_pos (by rw [c1]; exact h0)]
    exact ⟨by simp only [c1, c2]; exact Ct.Ends.one _, .inr ⟨by rw [c1]; exact h0, rfl, c3⟩⟩
/-- What a rewrite leaves of a disk on which n leads to a text t, and k is new, with a text b. -/
structure Left (d : Sd) (M : Gs) (n k : Nat) (t : List UInt8) (l : Nat) (b : List UInt8) (R : Sd × Gs × Nat) (m x : Nat) : Prop where
  ends : Ct.Ends d.ct R.1.ct R.2.2
  keeps : Keeps NR [man k, kTemp, kCur] d.co R.1.co m x
  out : (R.2.2 = 0 ∧ R.2.1 = { M with name := man k, count := 1 } ∧ R.1.co.Held kCur (headB k) (headB k).length ∧ R.1.co.Held (man k) b b.length ∧ R.1.co.most + 1 ≤ d.co.most + m) ∨
    (R.2.2 ≠ 0 ∧ R.2.1 = M ∧ R.1.co.Held kCur (headB n) (headB n).length ∧ R.1.co.Held (man n) t l) ∨
    (R.2.2 ≠ 0 ∧ R.2.1 = { M with name := man k, count := 1, broken := true } ∧ R.1.co.Now kCur (headB k) (headB k).length ∧ R.1.co.Held (man k) b b.length ∧ R.1.co.Held (man n) t l ∧ ∀ c', Cr R.1.co c' → c'.Held kCur (headB k) (headB k).length ∨ c'.Held kCur (headB n) (headB n).length)
theorem Left.before {d0 : Sd} {n k : Nat} {t b : List UInt8} {l : Nat} {R : Sd × Gs × Nat} {m x m0 x0 : Nat} (h : Left d M n k t l b R m x) (hr : Ct.Reach d0.ct d.ct) (hk : Keeps NR [man k, kTemp, kCur] d0.co d.co m0 x0) : Left d0 M n k t l b R (m0 + m) (x0 + x) :=
  ⟨Ct.Ends.after hr h.ends, hk.trans h.keeps, by
    rcases h.out with ⟨a1, a2, a3, a4, a5⟩ | a | a
    · exact .inl ⟨a1, a2, a3, a4, by have := hk.most; omega⟩
    · exact .inr (.inl a)
    · exact .inr (.inr a)⟩
theorem Left.more {n k : Nat} {t b : List UInt8} {l : Nat} {R : Sd × Gs × Nat} {m x m1 x1 : Nat} (h : Left d M n k t l b R m x) (hm : m ≤ m1) (hx : x ≤ x1) : Left d M n k t l b R m1 x1 :=
  ⟨h.ends, h.keeps.mono (fun _ h => h) (fun _ h => h) hm hx, by
    rcases h.out with ⟨a1, a2, a3, a4, a5⟩ | a | a
    · exact .inl ⟨a1, a2, a3, a4, by omega⟩
    · exact .inr (.inl a)
    · exact .inr (.inr a)⟩
variable {n k : Nat} {t b : List UInt8} {l : Nat}
theorem ren_out (hk1 : 1 ≤ k) (hk2 : k ≤ 1073741824) (hn1 : 1 ≤ n) (hn2 : n ≤ 1073741824) (h : d.co.In) (ht : d.turns = []) (hm : d.co.most = d.names.length)
    (hc : d.co.Held kCur (headB n) (headB n).length) (hn : d.co.Held (man n) t l) (hp : d.co.Held kTemp (headB k) (headB k).length) (hb : d.co.Held (man k) b b.length) : Left d M n k t l b (ren d M (man k)) 0 0 := by
  obtain ⟨i, g1, g2, f1, _⟩ := hp
  obtain ⟨c1, c2, c3⟩ := Sd.rename_ct temp_named cur_named cur_temp.symm g1
  unfold ren
  by_cases h0 : d.ct.call.2 = 0
  · rw [if_pos h0] at c3
    rw [if_neg (by rw [c1, h0]; simp)]
    have hp : d.co.Held kTemp (headB k) (headB k).length := ⟨i, g1, g2, f1, by rw [show d.co.turns = [] from ht]; simp⟩
    have k1 : Keeps (fun u => u = kTemp ∨ u = kCur) [kTemp, kCur] d.co (d.co.rename kTemp kCur) 0 0 := keeps_rename h (by decide) g1
    have hcr := fun c' => Co.ren_cr (c' := c') h ht cur_temp.symm hp hc
    have hc1 := Co.Now.moved h (Co.Held.now hp) cur_temp.symm
    have hn1' := Co.Held.rename (a := kTemp) (b := kCur) h hn (man_temp hn1 hn2) (man_cur hn1 hn2)
    have hb1 := Co.Held.rename (a := kTemp) (b := kCur) h hb (man_temp hk1 hk2) (man_cur hk1 hk2)
    have hlen : (d.co.rename kTemp kCur).names.length + 1 ≤ d.co.names.length := by
      rw [Co.rename_names g1]
      obtain ⟨j, gc, _⟩ := hc
      have h1 : ((d.co.names.put kCur i).del kTemp).length < (d.co.names.put kCur i).length := Nm.length_del_lt (i := i) (by rw [Nm.get_put_other h.apart cur_temp.symm]; exact g1)
      have h2 : (d.co.names.put kCur i).length = (d.co.names.del kCur).length + 1 := by rw [Nm.put, Nm.length_ins]
      have h3 := Nm.length_del_lt gc
      omega
    rw [← c3] at k1 hcr hc1 hn1' hb1 hlen
    have hr : Ct.Reach d.ct (d.rename kTemp kCur).1.ct := by rw [c2]; exact Ct.Reach.one _
    generalize (d.rename kTemp kCur).1 = d1 at *
    obtain ⟨e1, e2⟩ := fin_out (M := M) hk1 hk2 k1.in_ hc1 (Co.Held.now hb1)
    have kk : Keeps NR [man k, kTemp, kCur] d.co d1.co 0 0 := k1.mono (fun u hu => hu.elim .inl (fun e => .inr (.inl e))) (fun u hu => List.mem_cons_of_mem _ hu) (Nat.le_refl _) (Nat.le_refl _)
    refine ⟨Ct.Ends.after hr e1, ?_, ?_⟩
    · rcases e2 with ⟨_, _, a, _⟩ | ⟨_, _, a⟩
      · exact (kk.trans (a.mono (fun _ h => h) (fun _ h => by cases h) (Nat.le_refl _) (Nat.le_refl _)))
      · rw [a]; exact kk
    · rcases e2 with ⟨a1, a2, a3, a4, a5, a6⟩ | ⟨a1, a2, a3⟩
      · refine .inl ⟨a1, a2, a5, a6, ?_⟩
        have : d.co.names.length = d.names.length := rfl
        omega
      · refine .inr (.inr ⟨a1, a2, by rw [a3]; exact hc1, by rw [a3]; exact hb1, by rw [a3]; exact hn1', fun c' hc' => ?_⟩)
        rw [a3] at hc'
        exact hcr c' hc'
  · rw [if_neg h0] at c3
    rw [if_pos (by rw [c1]; exact h0)]
    exact ⟨by simp only [c1, c2]; exact Ct.Ends.one _, by rw [c3]; exact Keeps.refl h _ _, .inr (.inl ⟨by rw [c1]; exact h0, rfl, by rw [c3]; exact hc, by rw [c3]; exact hn⟩)⟩
theorem sd1_out (hk1 : 1 ≤ k) (hk2 : k ≤ 1073741824) (hn1 : 1 ≤ n) (hn2 : n ≤ 1073741824) (h : d.co.In)
    (hc : d.co.Held kCur (headB n) (headB n).length) (hn : d.co.Held (man n) t l) (hp : d.co.Now kTemp (headB k) (headB k).length) (hb : d.co.Now (man k) b b.length) : Left d M n k t l b (sd1 d M (man k)) 0 0 := by
  obtain ⟨c1, c2, c3⟩ := Sd.syncDir_ct (d := d)
  unfold sd1
  by_cases h0 : d.ct.call.2 = 0
  · rw [if_pos h0] at c3
    rw [if_neg (by rw [c1, h0]; simp)]
    have k1 := keeps_syncDir h
    have e1 := Co.syncDir_most d.co
    have hc1 := Co.Now.syncDir (Co.Held.now hc)
    have hn1' := Co.Now.syncDir (Co.Held.now hn)
    have hp1 := Co.Now.syncDir hp
    have hb1 := Co.Now.syncDir hb
    have ht : d.co.syncDir.turns = [] := rfl
    have hnn : d.co.syncDir.names = d.co.names := rfl
    rw [← c3] at k1 e1 hc1 hn1' hp1 hb1 ht hnn
    have hr : Ct.Reach d.ct (d.syncDir).1.ct := by rw [c2]; exact Ct.Reach.one _
    generalize (d.syncDir).1 = d1 at *
    have := ren_out (M := M) hk1 hk2 hn1 hn2 k1.in_ ht (by rw [e1, ← hnn]; rfl) hc1 hn1' hp1 hb1
    exact this.before hr (k1.mono (fun _ h => h.elim) (fun _ h => by cases h) (Nat.le_refl _) (Nat.le_refl _))
  · rw [if_neg h0] at c3
    rw [if_pos (by rw [c1]; exact h0)]
    exact ⟨by simp only [c1, c2]; exact Ct.Ends.one _, by rw [c3]; exact Keeps.refl h _ _, .inr (.inl ⟨by rw [c1]; exact h0, rfl, by rw [c3]; exact hc, by rw [c3]; exact hn⟩)⟩
theorem hd_out (hk1 : 1 ≤ k) (hk2 : k ≤ 1073741824) (hn1 : 1 ≤ n) (hn2 : n ≤ 1073741824) (h : d.co.In) (hm : d.co.most < 64) (hq : d.co.total + 200 ≤ d.quota) (hg : d.names.get kTemp = none)
    (hc : d.co.Held kCur (headB n) (headB n).length) (hn : d.co.Held (man n) t l) (hb : d.co.Now (man k) b b.length) : Left d M n k t l b (hd d M (man k)) 1 200 := by
  have hnum : (number (man k) kMan).getD 0 = (k : Int) := by rw [number_man hk1 hk2]; rfl
  have hhl := headB_len k
  obtain ⟨e1, e2, e3⟩ := Sd.write_out (b := headB k) h temp_named hg hm (by omega) (by omega)
  have kk : Keeps NR [man k, kTemp, kCur] d.co (d.write kTemp (headB k)).1.co 1 200 := e2.mono (fun u hu => .inl hu) (fun u hu => by rw [List.mem_singleton.1 hu]; simp) (Nat.le_refl _) hhl
  have hc1 := e2.held kCur cur_temp _ _ hc
  have hn1' := e2.held (man n) (man_temp hn1 hn2) _ _ hn
  unfold hd
  rw [hnum]
  by_cases h0 : (d.write kTemp (headB k)).2 = 0
  · rw [if_neg (by rw [h0]; simp)]
    have := sd1_out (M := M) hk1 hk2 hn1 hn2 e2.in_ hc1 hn1' (e3 h0) (e2.now _ (man_temp hk1 hk2) _ _ hb)
    exact this.before e1.1 kk
  · rw [if_pos h0]
    exact ⟨e1, kk, .inr (.inl ⟨h0, rfl, hc1, hn1'⟩)⟩
theorem write_dead {s : List UInt8} (hd : d.dead = true) (hs : Sd.named s = true) (b : List UInt8) : (d.write s b).2 = 50 ∧ Ct.Ends d.ct (d.write s b).1.ct 50 ∧ (d.write s b).1.co = d.co := by
  obtain ⟨c1, c2, c3⟩ := d.call_ct (l := [s]) (by simpa using hs)
  have h50 : d.ct.call = (d.ct, 50) := Ct.dead_call hd
  have hcr : d.create s = d.call [s] := by
    unfold Sd.create
    rw [if_pos (by rw [c3, h50]; simp)]
  unfold Sd.write
  rw [hcr, if_pos (by rw [c3, h50]; simp)]
  refine ⟨by rw [c3, h50], ?_, c1⟩
  have := Ct.Ends.one d.ct
  rw [c2]
  rwa [h50] at this ⊢
theorem hd_dead (hd : d.dead = true) (h : d.co.In) (hc : d.co.Held kCur (headB n) (headB n).length) (hn : d.co.Held (man n) t l) : Left d M n k t l b (Gw.hd d M nm) 0 0 := by
  obtain ⟨e1, e2, e3⟩ := write_dead hd temp_named (headB ((number nm kMan).getD 0))
  unfold Gw.hd
  rw [if_pos (by rw [e1]; decide)]
  exact ⟨by rw [e1]; exact e2, by rw [e3]; exact Keeps.refl h _ _, .inr (.inl ⟨by rw [e1]; decide, rfl, by rw [e3]; exact hc, by rw [e3]; exact hn⟩)⟩
theorem tmp_out (hk1 : 1 ≤ k) (hk2 : k ≤ 1073741824) (hn1 : 1 ≤ n) (hn2 : n ≤ 1073741824) (h : d.co.In) (hm : d.co.most < 64) (hq : d.co.total + 200 ≤ d.quota)
    (hc : d.co.Held kCur (headB n) (headB n).length) (hn : d.co.Held (man n) t l) (hb : d.co.Now (man k) b b.length) : Left d M n k t l b (tmp d M (man k)) 1 200 := by
  by_cases hd : d.dead = true
  · have hr : (d.read kTemp).2 = 50 := by
      unfold Sd.read
      rw [if_neg (by rw [temp_named]; simp), if_pos hd]
    unfold tmp
    rw [if_neg (by rw [hr]; decide)]
    exact (hd_dead hd h hc hn).more (Nat.zero_le _) (Nat.zero_le _)
  have hd : d.dead = false := by simpa using hd
  unfold tmp
  cases hg : d.names.get kTemp with
  | none =>
    have hr : (d.read kTemp).2 = 11 := by
      unfold Sd.read
      rw [if_neg (by rw [temp_named]; simp), if_neg (by rw [hd]; simp), hg]
    rw [if_neg (by rw [hr]; decide)]
    exact hd_out hk1 hk2 hn1 hn2 h hm hq hg hc hn hb
  | some i =>
    have hr : (d.read kTemp).2 = 0 := by
      unfold Sd.read
      rw [if_neg (by rw [temp_named]; simp), if_neg (by rw [hd]; simp), hg]
    rw [if_pos hr]
    obtain ⟨c1, c2, c3⟩ := Sd.remove_ct temp_named hg
    by_cases h0 : d.ct.call.2 = 0
    · rw [if_pos h0] at c3
      rw [if_neg (by rw [c1, h0]; simp)]
      have k1 : Keeps (· = kTemp) [] d.co (d.co.remove kTemp) 0 0 := keeps_remove h hg
      have hg1 := Co.remove_gone h kTemp
      rw [← c3] at k1 hg1
      have hr : Ct.Reach d.ct (d.remove kTemp).1.ct := by rw [c2]; exact Ct.Reach.one _
      generalize (d.remove kTemp).1 = d1 at *
      have hq1 : d1.quota = d.quota := k1.quota
      have hm1 := k1.most
      have ht1 := k1.total
      have := hd_out (M := M) hk1 hk2 hn1 hn2 k1.in_ (by omega) (by omega) hg1 (k1.held _ cur_temp _ _ hc) (k1.held _ (man_temp hn1 hn2) _ _ hn) (k1.now _ (man_temp hk1 hk2) _ _ hb)
      exact (this.before hr (k1.mono (fun u hu => .inl hu) (fun _ h => by cases h) (Nat.le_refl _) (Nat.le_refl _))).more (by omega) (by omega)
    · rw [if_neg h0] at c3
      rw [if_pos (by rw [c1]; exact h0)]
      exact ⟨by simp only [c1, c2]; exact Ct.Ends.one _, by rw [c3]; exact (Keeps.refl h _ _).mono (fun _ h => h) (fun _ h => h) (by omega) (by omega), .inr (.inl ⟨by rw [c1]; exact h0, rfl, by rw [c3]; exact hc, by rw [c3]; exact hn⟩)⟩
theorem rewrite_out (hv : M.v.ok = true) (hk1 : 1 ≤ k) (hk2 : k ≤ 1073741824) (hn1 : 1 ≤ n) (hn2 : n ≤ 1073741824) (hne : n ≠ k) (h : d.co.In) (hm : d.co.most + 1 < 64) (hq : d.co.total + 2300 ≤ d.quota) (hg : d.names.get (man k) = none)
    (hc : d.co.Held kCur (headB n) (headB n).length) (hn : d.co.Held (man n) t l) : Left d M n k t l M.v.whole.rec_ (rewrite d M (man k)) 2 2300 := by
  have hrl := Ed.rec_len (Vw.whole_may hv)
  obtain ⟨e1, e2, e3⟩ := Sd.write_out (b := M.v.whole.rec_) h (man_named hk1 hk2) hg (by omega) (by omega) (by omega)
  have hnk : man n ≠ man k := fun e => hne (man_inj hk1 hk2 e)
  have kk : Keeps NR [man k, kTemp, kCur] d.co (d.write (man k) M.v.whole.rec_).1.co 1 2012 := e2.mono (fun u hu => .inr (.inr (by rw [hu, number_man hk1 hk2]; rfl))) (fun u hu => by rw [List.mem_singleton.1 hu]; simp) (Nat.le_refl _) hrl
  have hc1 := e2.held kCur (man_cur hk1 hk2).symm _ _ hc
  have hn1' := e2.held (man n) hnk _ _ hn
  unfold rewrite
  by_cases h0 : (d.write (man k) M.v.whole.rec_).2 = 0
  · rw [if_neg (by rw [h0]; simp)]
    have hm1 := kk.most
    have ht1 := kk.total
    have hq1 : (d.write (man k) M.v.whole.rec_).1.quota = d.quota := kk.quota
    have := tmp_out (M := M) hk1 hk2 hn1 hn2 kk.in_ (by omega) (by omega) hc1 hn1' (e3 h0)
    exact (this.before e1.1 kk).more (by omega) (by omega)
  · rw [if_pos h0]
    exact ⟨e1, kk.mono (fun _ h => h) (fun _ h => h) (by omega) (by omega), .inr (.inl ⟨h0, rfl, hc1, hn1'⟩)⟩
theorem rewrite_dead (hd : d.dead = true) (hk1 : 1 ≤ k) (hk2 : k ≤ 1073741824) (h : d.co.In) (hc : d.co.Held kCur (headB n) (headB n).length) (hn : d.co.Held (man n) t l) {j : Nat} : Left d M n j t l b (rewrite d M (man k)) 0 0 := by
  obtain ⟨e1, e2, e3⟩ := write_dead hd (man_named hk1 hk2) M.v.whole.rec_
  unfold rewrite
  rw [if_pos (by rw [e1]; decide)]
  exact ⟨by rw [e1]; exact e2, by rw [e3]; exact Keeps.refl h _ _, .inr (.inl ⟨by rw [e1]; decide, rfl, by rw [e3]; exact hc, by rw [e3]; exact hn⟩)⟩

/-- The number that a name has. -/
def numOf (s : List UInt8) : Int := (number s kMan).getD 0
/-- No name has a greater number. -/
def Under (c : Co) (G : Nat) : Prop := ∀ s, c.Known s → numOf s ≤ G
theorem greatest_le {l : List (List UInt8)} {G : Int} (h0 : 0 ≤ G) (h : ∀ s ∈ l, numOf s ≤ G) : greatest l kMan ≤ G := by
  unfold greatest
  have key : ∀ (l : List (List UInt8)) (a : Int), a ≤ G → (∀ s ∈ l, numOf s ≤ G) → l.foldl (fun m s => max m ((number s kMan).getD 0)) a ≤ G := by
    intro l
    induction l with
    | nil => intro a ha _; exact ha
    | cons s r ih =>
      intro a ha hs
      have := hs s (by simp)
      unfold numOf at this
      exact ih _ (Int.max_le.2 ⟨ha, this⟩) (fun x hx => hs x (by simp [hx]))
  exact key l 0 h0 h
theorem le_greatest {l : List (List UInt8)} {s : List UInt8} (h : s ∈ l) : numOf s ≤ greatest l kMan := by
  unfold greatest
  have mono : ∀ (l : List (List UInt8)) (a : Int), a ≤ l.foldl (fun m s => max m ((number s kMan).getD 0)) a := by
    intro l
    induction l with
    | nil => intro a; exact Int.le_refl a
    | cons s r ih => intro a; exact Int.le_trans (Int.le_max_left _ _) (ih _)
  have key : ∀ (l : List (List UInt8)) (a : Int), s ∈ l → numOf s ≤ l.foldl (fun m s => max m ((number s kMan).getD 0)) a := by
    intro l
    induction l with
    | nil => intro a h; cases h
    | cons x r ih =>
      intro a h
      rcases List.mem_cons.1 h with rfl | h
      · exact Int.le_trans (Int.le_max_right _ _) (mono r _)
      · exact ih _ h
  exact key l 0 h
theorem greatest_nonneg (l : List (List UInt8)) : 0 ≤ greatest l kMan := by
  unfold greatest
  have mono : ∀ (l : List (List UInt8)) (a : Int), a ≤ l.foldl (fun m s => max m ((number s kMan).getD 0)) a := by
    intro l
    induction l with
    | nil => intro a; exact Int.le_refl a
    | cons s r ih => intro a; exact Int.le_trans (Int.le_max_left _ _) (ih _)
  exact mono l 0
theorem numOf_man {n : Nat} (h1 : 1 ≤ n) (h2 : n ≤ 1073741824) : numOf (man n) = n := by unfold numOf; rw [number_man h1 h2]; rfl
theorem mem_list_names {s : List UInt8} (hd : d.dead = false) : s ∈ d.list ↔ ∃ p ∈ d.names, p.1 = s := by
  unfold Sd.list
  rw [if_neg (by simp [hd]), List.mem_mergeSort, List.mem_map]
theorem rewriteM_out {G : Nat} (hbr : M.broken = false) (hv : M.v.ok = true) (hn1 : 1 ≤ n) (hG : G + 1 ≤ 1073741824) (hu : Under d.co G) (h : d.co.In) (hm : d.co.most + 1 < 64) (hq : d.co.total + 2300 ≤ d.quota)
    (hc : d.co.Held kCur (headB n) (headB n).length) (hn : d.co.Held (man n) t l) (hnG : n ≤ G) : ∃ k, 1 ≤ k ∧ k ≤ G + 1 ∧ Left d M n k t l M.v.whole.rec_ (rewriteM d M) 2 2300 := by
  have hn2 : n ≤ 1073741824 := by omega
  unfold rewriteM
  rw [if_neg (by simp [hbr])]
  have hgl : greatest d.list kMan ≤ G := by
    refine greatest_le (by omega) (fun s hs => hu s (.inl ?_))
    by_cases hd : d.dead = true
    · unfold Sd.list at hs; rw [if_pos hd] at hs; cases hs
    · exact (mem_list_names (by simpa using hd)).1 hs
  have hg0 := greatest_nonneg d.list
  rw [if_neg (by omega)]
  obtain ⟨g, hg⟩ : ∃ g : Nat, greatest d.list kMan = (g : Int) := ⟨(greatest d.list kMan).toNat, by omega⟩
  have e : name kMan (greatest d.list kMan + 1) = man (g + 1) := by rw [hg]; rfl
  rw [e]
  by_cases hd : d.dead = true
  · exact ⟨g + 1, by omega, by omega, (rewrite_dead hd (by omega) (by omega) h hc hn).more (by omega) (by omega)⟩
  · have hd : d.dead = false := by simpa using hd
    have hn' := hn
    obtain ⟨i, gn, _⟩ := hn'
    have hng : n ≤ g := by
      have h1 := le_greatest ((mem_list_names hd).2 ⟨_, Nm.get_mem gn, rfl⟩)
      rw [numOf_man hn1 hn2] at h1
      omega
    have hgk : d.names.get (man (g + 1)) = none := by
      cases hgk : d.names.get (man (g + 1)) with
      | none => rfl
      | some j =>
        have h1 := le_greatest ((mem_list_names hd).2 ⟨_, Nm.get_mem hgk, rfl⟩)
        rw [numOf_man (by omega) (by omega)] at h1
        omega
    exact ⟨g + 1, by omega, by omega, rewrite_out hv (by omega) (by omega) hn1 hn2 (by omega) h hm hq hgk hc hn⟩
theorem Under.keeps {c c' : Co} {N : List UInt8 → Prop} {K : List (List UInt8)} {m x G H : Nat} (hu : Under c G) (hk : Keeps N K c c' m x) (hK : ∀ s ∈ K, numOf s ≤ H) (hG : G ≤ H) : Under c' H := fun s hs => by
  rcases hk.known s hs with h1 | h1 | rfl
  · have := hu s h1; omega
  · exact hK s h1
  · show ((number [] kMan).getD 0 : Int) ≤ H
    rw [show number [] kMan = none from by rfl]
    simp
theorem Under.cr {c c' : Co} {G : Nat} (hu : Under c G) (h : Cr c c') : Under c' G := fun s hs => hu s (h.known hs)
theorem numOf_K {k : Nat} (h1 : 1 ≤ k) (h2 : k ≤ 1073741824) {H : Nat} (hk : k ≤ H) : ∀ s ∈ [man k, kTemp, kCur], numOf s ≤ H := by
  intro s hs
  simp only [List.mem_cons, List.not_mem_nil, or_false] at hs
  rcases hs with rfl | rfl | rfl
  · rw [numOf_man h1 h2]; omega
  · unfold numOf; rw [number_temp]; simp
  · unfold numOf; rw [number_cur]; simp

/-- What a Save leaves. -/
structure Put (d : Sd) (M : Gs) (n : Nat) (t : List UInt8) (e : Ed) (v : Vw) (R : Sd × Gs × Nat) : Prop where
  ends : Ct.Ends d.ct R.1.ct R.2.2
  keeps : Keeps (· = man n) [] d.co R.1.co 0 e.rec_.length
  out : (R.2.2 = 0 ∧ R.2.1 = { M with count := M.count + 1, v := v } ∧ R.1.co.Held (man n) (t ++ e.rec_) (t ++ e.rec_).length) ∨
    (R.2.2 ≠ 0 ∧ R.2.1 = M ∧ R.1.co = d.co) ∨
    (R.2.2 ≠ 0 ∧ R.2.1 = { M with count := M.count + 1, v := v, broken := true } ∧ R.1.co.Held (man n) (t ++ e.rec_) t.length)
theorem put_out {e : Ed} {v : Vw} (hnm : M.name = man n) (hn1 : 1 ≤ n) (hn2 : n ≤ 1073741824) (h : d.co.In) (hl : t.length + e.rec_.length ≤ 250000) (hq : d.co.total + e.rec_.length ≤ d.quota) (hn : d.co.Held (man n) t t.length) : Put d M n t e v (put d M e v) := by
  obtain ⟨i, g1, g2, f1, tu⟩ := hn
  have hn : d.co.Held (man n) t t.length := ⟨i, g1, g2, f1, tu⟩
  have hu := Sd.used_total h
  obtain ⟨a1, a2, a3⟩ := Sd.append_ct (b := e.rec_) (man_named hn1 hn2) g1 f1 hl (by omega)
  unfold put
  rw [hnm]
  by_cases h0 : d.ct.call.2 = 0
  · rw [if_pos h0] at a3
    rw [if_neg (by rw [a1, h0]; simp)]
    have k1 := keeps_set (g := (t ++ e.rec_, t.length)) h g1 f1
    have n1 := Co.Held.set g1 hn (t ++ e.rec_, t.length)
    rw [← a3] at k1 n1
    have hr : Ct.Reach d.ct (d.append (man n) e.rec_).1.ct := by rw [a2]; exact Ct.Reach.one _
    have kk : Keeps (· = man n) [] d.co (d.append (man n) e.rec_).1.co 0 e.rec_.length := k1.mono (fun _ h => h) (fun _ h => h) (Nat.le_refl _) (by simp)
    generalize (d.append (man n) e.rec_).1 = d1 at *
    obtain ⟨j, g3, g4, f2, tu2⟩ := n1
    obtain ⟨b1, b2, b3⟩ := Sd.sync_ct (man_named hn1 hn2) g3 f2
    by_cases h1 : d1.ct.call.2 = 0
    · rw [if_pos h1] at b3
      rw [if_neg (by rw [b1, h1]; simp)]
      refine ⟨by simp only [b2]; exact Ct.Ends.none hr.step, ?_, .inl ⟨rfl, by rw [← hnm], ?_⟩⟩
      · rw [b3]
        exact (kk.trans ((keeps_set (g := (t ++ e.rec_, (t ++ e.rec_).length)) k1.in_ g3 f2).mono (fun _ h => h) (fun _ h => h) (Nat.le_refl _) (Nat.le_refl _))).mono (fun _ h => h) (fun _ h => h) (by omega) (by simp)
      · rw [b3]
        exact Co.Held.set g3 ⟨j, g3, g4, f2, tu2⟩ (t ++ e.rec_, (t ++ e.rec_).length)
    · rw [if_neg h1] at b3
      rw [if_pos (by rw [b1]; exact h1)]
      exact ⟨by simp only [b1, b2]; exact Ct.Ends.after hr (Ct.Ends.one _), by rw [b3]; exact kk, .inr (.inr ⟨by rw [b1]; exact h1, by rw [← hnm], by rw [b3]; exact ⟨j, g3, g4, f2, tu2⟩⟩)⟩
  · rw [if_neg h0] at a3
    rw [if_pos (by rw [a1]; exact h0)]
    exact ⟨by simp only [a1, a2]; exact Ct.Ends.one _, by rw [a3]; exact (Keeps.refl h _ _).mono (fun _ h => h) (fun _ h => h) (Nat.le_refl _) (Nat.zero_le _), .inr (.inl ⟨by rw [a1]; exact h0, rfl, a3⟩)⟩
end Gw
end Go.Proofs.YthepokgkfaocmaaGreatDoor

/-
  A manifest and its disk in good order, as plain data; a rewrite, a Save, an Open of such.
-/
namespace Go.Proofs.YthepokgkfaocmaaGreatDoor
open Go Go.RowKit
open Co
theorem Ct.Ends.hale {a b : Ct} {er : Nat} (h : a.hale) (e : Ct.Ends a b er) : er = 0 ∧ b = a := by
  refine ⟨?_, h.reach e.1⟩
  cases er with
  | zero => rfl
  | succ n =>
    obtain ⟨c, h1, h2, _⟩ := e.2 (by simp)
    rw [h.reach h1, h.call] at h2
    cases h2
theorem Ct.Ends.live {a b : Ct} {er : Nat} (h : a.live) (e : Ct.Ends a b er) : b.live ∧ (er = 0 ∨ er = 15 ∧ b.hale) := by
  refine ⟨h.reach e.1, ?_⟩
  by_cases h0 : er = 0
  · exact .inl h0
  · obtain ⟨c, h1, h2, h3⟩ := e.2 h0
    rcases (h.reach h1).call.2 with h4 | ⟨h4, h5⟩
    · exact absurd (h2.trans h4) h0
    · exact .inr ⟨h2.trans h4, by rw [h3]; exact h5⟩
theorem Ct.Ends.nofail {a b : Ct} {er : Nat} (h : a.fail = 0) (e : Ct.Ends a b er) : b.fail = 0 ∧ (er = 0 ∨ er = 50 ∧ b.dead = true) := by
  refine ⟨Ct.nofail_reach h e.1, ?_⟩
  by_cases h0 : er = 0
  · exact .inl h0
  · obtain ⟨c, h1, h2, h3⟩ := e.2 h0
    rcases (Ct.nofail (Ct.nofail_reach h h1)).2 with h4 | ⟨h4, h5⟩
    · exact absurd (h2.trans h4) h0
    · exact .inr ⟨h2.trans h4, by rw [h3, Ct.dead_call h5]; exact h5⟩

theorem dropAll_nil (l : List (Int × Int)) : dropAll [] l = some l := rfl
theorem Vw.whole_app {v : Vw} (h : v.ok = true) : Vw.none_.app v.whole = some v := by
  obtain ⟨g, fs, f, c, a, l⟩ := v
  have hg : g ≠ 0 := by
    simp only [Vw.ok, isNum, Bool.and_eq_true, decide_eq_true_eq] at h
    omega
  have e1 : ∀ x, orElse x 0 = x := fun x => by unfold orElse; split <;> omega
  unfold Vw.app Vw.whole Vw.none_
  simp only [dropAll_nil]
  simp [e1, hg, h]
theorem Vw.run_whole {v : Vw} (h : v.ok = true) : Vw.none_.run [v.whole] = some v := by
  simp only [Vw.run, Vw.whole_app h]
theorem Ed.text_one (e : Ed) : Ed.text [e] = e.rec_ := by simp [Ed.text, Fr.all, Ed.rec_]
theorem Ed.text_le : ∀ {es : List Ed}, (∀ e ∈ es, e.may = true) → (Ed.text es).length ≤ 2012 * es.length
  | [], _ => by simp [Ed.text, Fr.all]
  | e :: r, h => by
    have h1 := Ed.text_le (es := r) (fun x hx => h x (by simp [hx]))
    have h2 := Ed.rec_len (h e (by simp))
    have e1 : Ed.text (e :: r) = e.rec_ ++ Ed.text r := by simp [Ed.text, Fr.all, Ed.rec_]
    rw [e1, List.length_append, List.length_cons]
    omega

namespace Gw
open Mn
open Mw (kCur kTemp headB sweep man NR man_cur man_temp cur_temp man_named cur_named temp_named number_man number_cur number_temp man_inj)
variable {d : Sd} {M : Gs} {n k : Nat} {t : List UInt8} {l : Nat}
/-- A rewrite on a disk that nothing stops. -/
theorem hale_out (hh : d.ct.hale) (hv : M.v.ok = true) (hk1 : 1 ≤ k) (hk2 : k ≤ 1073741824) (h : d.co.In) (hm : d.co.most + 1 < 64) (hq : d.co.total + 2300 ≤ d.quota) (hg : d.names.get (man k) = none) :
    (rewrite d M (man k)).2 = ({ M with name := man k, count := 1 }, 0) ∧ (rewrite d M (man k)).1.ct = d.ct ∧ Keeps NR [man k, kTemp, kCur] d.co (rewrite d M (man k)).1.co 2 2300 ∧
      (rewrite d M (man k)).1.co.Held kCur (headB k) (headB k).length ∧ (rewrite d M (man k)).1.co.Held (man k) M.v.whole.rec_ M.v.whole.rec_.length := by
  have hrl := Ed.rec_len (Vw.whole_may hv)
  obtain ⟨e1, e2, e3⟩ := Sd.write_out (b := M.v.whole.rec_) h (man_named hk1 hk2) hg (by omega) (by omega) (by omega)
  obtain ⟨e0, e4⟩ := e1.hale hh
  have kk : Keeps NR [man k, kTemp, kCur] d.co (d.write (man k) M.v.whole.rec_).1.co 1 2012 := e2.mono (fun u hu => .inr (.inr (by rw [hu, number_man hk1 hk2]; rfl))) (fun u hu => by rw [List.mem_singleton.1 hu]; simp) (Nat.le_refl _) hrl
  have hb := e3 e0
  unfold rewrite
  rw [if_neg (by rw [e0]; simp)]
  generalize (d.write (man k) M.v.whole.rec_).1 = d1 at *
  have hq1 : d1.quota = d.quota := kk.quota
  have hm1 := kk.most
  have ht1 := kk.total
  have hh1 : d1.ct.hale := by rw [e4]; exact hh
  have hd1 : d1.dead = false := hh1.1
  -- the name beside current
  obtain ⟨d2, f1, f2, f3, f4, f5⟩ : ∃ d2, tmp d1 M (man k) = Gw.hd d2 M (man k) ∧ d2.ct = d.ct ∧ Keeps NR [man k, kTemp, kCur] d.co d2.co 1 2012 ∧ d2.names.get kTemp = none ∧ d2.co.Now (man k) M.v.whole.rec_ M.v.whole.rec_.length := by
    unfold tmp
    cases hgt : d1.names.get kTemp with
    | none =>
      have hr : (d1.read kTemp).2 = 11 := by
        unfold Sd.read
        rw [if_neg (by rw [temp_named]; simp), if_neg (by rw [hd1]; simp), hgt]
      rw [if_neg (by rw [hr]; decide)]
      exact ⟨d1, rfl, e4, kk, hgt, hb⟩
    | some i =>
      have hr : (d1.read kTemp).2 = 0 := by
        unfold Sd.read
        rw [if_neg (by rw [temp_named]; simp), if_neg (by rw [hd1]; simp), hgt]
      obtain ⟨c1, c2, c3⟩ := Sd.remove_ct temp_named hgt
      rw [hh1.call] at c1 c2 c3
      rw [if_pos rfl] at c3
      rw [if_pos hr, if_neg (by rw [c1]; simp)]
      have k1 : Keeps (· = kTemp) [] d1.co (d1.co.remove kTemp) 0 0 := keeps_remove kk.in_ hgt
      have hg1 := Co.remove_gone kk.in_ kTemp
      rw [← c3] at k1 hg1
      exact ⟨_, rfl, c2.trans e4, (kk.trans (k1.mono (fun u hu => .inl hu) (fun _ h => by cases h) (Nat.le_refl _) (Nat.le_refl _))), hg1, k1.now _ (man_temp hk1 hk2) _ _ hb⟩
  rw [f1]
  have hnum : (number (man k) kMan).getD 0 = (k : Int) := by rw [number_man hk1 hk2]; rfl
  have hhl := headB_len k
  have hh2 : d2.ct.hale := by rw [f2]; exact hh
  have hq2 : d2.quota = d.quota := f3.quota
  have hm2 := f3.most
  have ht2 := f3.total
  obtain ⟨g1, g2, g3⟩ := Sd.write_out (b := headB k) f3.in_ temp_named f4 (by omega) (by omega) (by omega)
  obtain ⟨g0, g4⟩ := g1.hale hh2
  have hp := g3 g0
  have hb2 := g2.now _ (man_temp hk1 hk2) _ _ f5
  have k2 : Keeps NR [man k, kTemp, kCur] d.co (d2.write kTemp (headB k)).1.co 2 2212 := (f3.trans (g2.mono (fun u hu => .inl hu) (fun u hu => by rw [List.mem_singleton.1 hu]; simp) (Nat.le_refl _) hhl))
  unfold Gw.hd
  rw [hnum, if_neg (by rw [g0]; simp)]
  generalize (d2.write kTemp (headB k)).1 = d3 at *
  have hh3 : d3.ct.hale := by rw [g4]; exact hh2
  obtain ⟨c1, c2, c3⟩ := Sd.syncDir_ct (d := d3)
  rw [hh3.call] at c1 c2 c3
  rw [if_pos rfl] at c3
  unfold sd1
  rw [if_neg (by rw [c1]; simp)]
  have k3 := keeps_syncDir k2.in_
  have hp3 := Co.Now.syncDir hp
  have hb3 := Co.Now.syncDir hb2
  rw [← c3] at k3 hp3 hb3
  generalize (d3.syncDir).1 = d4 at *
  have hh4 : d4.ct.hale := by rw [c2]; exact hh3
  obtain ⟨i, i1, i2, i3, i4⟩ := hp3
  obtain ⟨r1, r2, r3⟩ := Sd.rename_ct temp_named cur_named cur_temp.symm i1
  rw [hh4.call] at r1 r2 r3
  rw [if_pos rfl] at r3
  unfold ren
  rw [if_neg (by rw [r1]; simp)]
  have k4 : Keeps (fun u => u = kTemp ∨ u = kCur) [kTemp, kCur] d4.co (d4.co.rename kTemp kCur) 0 0 := keeps_rename k3.in_ (by decide) i1
  have hc4 := Co.Now.moved k3.in_ (Co.Held.now ⟨i, i1, i2, i3, i4⟩) cur_temp.symm
  have hb4 := Co.Held.rename (a := kTemp) (b := kCur) k3.in_ hb3 (man_temp hk1 hk2) (man_cur hk1 hk2)
  rw [← r3] at k4 hc4 hb4
  generalize (d4.rename kTemp kCur).1 = d5 at *
  have hh5 : d5.ct.hale := by rw [r2]; exact hh4
  obtain ⟨u1, u2⟩ := fin_out (M := M) hk1 hk2 k4.in_ hc4 (Co.Held.now hb4)
  obtain ⟨u0, u3⟩ := u1.hale hh5
  rcases u2 with ⟨v1, v2, v3, v4, v5, v6⟩ | ⟨v1, _⟩
  · refine ⟨Prod.ext v2 v1, by rw [u3, r2, c2, g4, f2], ?_, v5, v6⟩
    have := ((k2.trans (k3.mono (fun _ h => h.elim) (fun _ h => by cases h) (Nat.le_refl _) (Nat.le_refl _))).trans (k4.mono (fun u hu => hu.elim .inl (fun e => .inr (.inl e))) (fun u hu => List.mem_cons_of_mem _ hu) (Nat.le_refl _) (Nat.le_refl _))).trans (v3.mono (fun _ h => h) (fun _ h => by cases h) (Nat.le_refl _) (Nat.le_refl _))
    exact this.mono (fun _ h => h) (fun _ h => h) (by omega) (by omega)
  · exact absurd u0 v1
end Gw
open Mw (kCur kTemp headB man NR)
theorem read_now {d : Sd} {s t : List UInt8} {l : Nat} (hs : Sd.named s = true) (hd : d.dead = false) (h : d.co.Now s t l) : d.read s = (t, 0) := by
  obtain ⟨i, g, f⟩ := h
  have g' : d.names.get s = some i := g
  have f' : d.files[i]? = some (t, l) := f
  unfold Sd.read
  rw [if_neg (by simp [hs]), if_neg (by simp [hd]), g']
  simp [List.getD_eq_getElem?_getD, f']
/-- What Look tells of a disk on which current leads to a text. -/
theorem look_now {d : Sd} {n : Nat} {t : List UInt8} {l lc : Nat} {v : Vw} {k stop : Nat} (hd : d.dead = false) (hn1 : 1 ≤ n) (hn2 : n ≤ 1073741824) (hc : d.co.Now kCur (headB n) lc) (hn : d.co.Now (man n) t l) (hv : Vw.views t = some (v, k, stop)) :
    Gw.look d = (some (⟨man n, v, k, false⟩, decide (stop < t.length) || decide (30 < k)), 0) := by
  have h1 := read_now Mw.cur_named hd hc
  have h2 := read_now (Mw.man_named hn1 hn2) hd hn
  have e2 : headB n = Fr.put 8 (Pn.put n) := rfl
  have e1 := Fr.take_put [] 8 (Pn.put n) [] (by omega) (by omega) (by have := Pn.put_len n; omega)
  simp only [List.nil_append, List.append_nil, List.length_nil, Nat.zero_add] at e1
  rw [← e2] at e1
  have e3 := Pn.take_put n [] (by omega)
  rw [List.append_nil] at e3
  unfold Gw.look
  rw [h1, if_neg (by simp)]
  unfold Gw.lookC
  rw [e1, if_neg (by simp)]
  unfold Gw.lookN
  rw [e3, if_neg (by simp; omega)]
  unfold Gw.lookT
  rw [show Mn.name Mn.kMan ((n : Nat) : Int) = man n from rfl, h2, if_neg (by simp)]
  simp only
  rw [hv]
/-- A manifest and its disk in good order: the changes in its text are ts. -/
structure MS (d : Sd) (M : Gs) (n G : Nat) (ts : List Ed) : Prop where
  in_ : d.co.In
  nm : M.name = man n
  n1 : 1 ≤ n
  nG : n ≤ G
  cur : d.co.Held kCur (headB n) (headB n).length
  man : d.co.Held (man n) (Ed.text ts) (Ed.text ts).length
  under : Gw.Under d.co G
  may : ∀ e ∈ ts, e.may = true
  ne : ts ≠ []
  run : Vw.none_.run ts = some M.v
  count : M.count = ts.length
  broken : M.broken = false
  ok : M.v.ok = true
theorem MS.views {d : Sd} {M : Gs} {n G : Nat} {ts : List Ed} (h : MS d M n G ts) : Vw.views (Ed.text ts) = some (M.v, ts.length, (Ed.text ts).length) := by
  rw [Vw.views_text ts h.may h.ne, h.run]
  rfl
/-- A new file of one change. -/
theorem MS.made {d : Sd} {M : Gs} {k G : Nat} (hi : d.co.In) (hb : M.broken = false) (hv : M.v.ok = true) (h1 : 1 ≤ k) (hG : k ≤ G) (hc : d.co.Held kCur (headB k) (headB k).length) (hm : d.co.Held (Mw.man k) M.v.whole.rec_ M.v.whole.rec_.length) (hu : Gw.Under d.co G) :
    MS d { M with name := Mw.man k, count := 1 } k G [M.v.whole] :=
  ⟨hi, rfl, h1, hG, hc, by rw [Ed.text_one]; exact hm, hu, fun e he => by rw [List.mem_singleton.1 he]; exact Vw.whole_may hv, by simp, Vw.run_whole hv, rfl, hb, hv⟩
theorem MS.with_ {d d' : Sd} {M : Gs} {n G H : Nat} {ts : List Ed} (h : MS d M n G ts) (hi : d'.co.In) (hc : d'.co.Held kCur (headB n) (headB n).length) (hm : d'.co.Held (Mw.man n) (Ed.text ts) (Ed.text ts).length) (hG : G ≤ H) (hu : Gw.Under d'.co H) : MS d' M n H ts :=
  ⟨hi, h.nm, h.n1, by have := h.nG; omega, hc, hm, hu, h.may, h.ne, h.run, h.count, h.broken, h.ok⟩
theorem MS.new : ∃ S1, Gw.rewrite (Sd.new 1048576) ⟨[], v1g, 0, false⟩ (Mw.man 1) = (S1, ⟨Mw.man 1, v1g, 1, false⟩, 0) ∧ MS S1 ⟨Mw.man 1, v1g, 1, false⟩ 1 1 [v1g.whole] ∧ S1.ct.hale ∧ S1.co.most ≤ 2 ∧ S1.co.total ≤ 2300 ∧ S1.quota = 1048576 ∧ S1.load ≤ 100 := by
  have hi : (Sd.new 1048576).co.In := ⟨List.Pairwise.nil, List.Pairwise.nil, fun p hp => (by cases hp), fun p hp => (by cases hp), fun p hp => (by cases hp), fun p hp => (by cases hp), List.nodup_nil, fun i hi => (by cases hi), rfl, fun u hu => (by cases hu)⟩
  have hu : Gw.Under (Sd.new 1048576).co 0 := fun s hs => by
    rcases hs with ⟨p, hp, _⟩ | ⟨p, hp, _⟩ | ⟨p, hp, _⟩ <;> cases hp
  obtain ⟨h1, h2, h3, h4, h5⟩ := Gw.hale_out (d := Sd.new 1048576) (M := ⟨[], v1g, 0, false⟩) (k := 1) ⟨rfl, rfl, rfl⟩ v1g_ok (Nat.le_refl 1) (by decide) hi (by decide) (by decide) rfl
  refine ⟨(Gw.rewrite (Sd.new 1048576) ⟨[], v1g, 0, false⟩ (Mw.man 1)).1, Prod.ext rfl h1, MS.made (M := ⟨[], v1g, 0, false⟩) h3.in_ rfl v1g_ok (Nat.le_refl 1) (Nat.le_refl 1) h4 h5 (hu.keeps h3 (Gw.numOf_K (Nat.le_refl 1) (by decide) (Nat.le_refl 1)) (by omega)), by rw [h2]; exact ⟨rfl, rfl, rfl⟩, ?_, ?_, h3.quota, ?_⟩
  · have := h3.most
    have e : (Sd.new 1048576).co.most = 0 := rfl
    omega
  · have := h3.total
    have e : (Sd.new 1048576).co.total = 0 := rfl
    omega
  · have := Gw.rewrite_load (Sd.new_wf 1048576 (by omega)) ⟨[], v1g, 0, false⟩ (Mw.man 1)
    have e : (Sd.new 1048576).load = 0 := rfl
    omega
/-- A change that may be, onto a manifest in good order. -/
theorem MS.save {d : Sd} {M : Gs} {n G : Nat} {ts : List Ed} {e : Ed} {v : Vw} (h : MS d M n G ts) (hG : G ≤ 1073741824) (he : e.may = true) (hv : M.v.app e = some v) (hl : ts.length ≤ 60) (hq : d.co.total + 2012 ≤ d.quota) :
    Gw.Put d M n (Ed.text ts) e v (Gw.save d M e) ∧ ((Gw.save d M e).2.2 = 0 → MS (Gw.save d M e).1 { M with count := M.count + 1, v := v } n G (ts ++ [e])) := by
  have hr := Ed.rec_len he
  have ht := Ed.text_le h.may
  have n1 := h.n1
  have nG := h.nG
  rw [Gw.save_put h.broken he hv]
  have hp := Gw.put_out (e := e) (v := v) h.nm h.n1 (by omega) h.in_ (by omega) (by omega) h.man
  refine ⟨hp, fun h0 => ?_⟩
  rcases hp.out with ⟨_, _, a⟩ | ⟨a, _⟩ | ⟨a, _⟩
  · refine ⟨hp.keeps.in_, h.nm, n1, nG, hp.keeps.held _ (Mw.man_cur n1 (by omega)).symm _ _ h.cur, by rw [Ed.text_snoc]; exact a, h.under.keeps hp.keeps (fun s hs => by cases hs) (Nat.le_refl _), fun x hx => ?_, by simp, ?_, ?_, h.broken, Vw.app_ok hv⟩
    · rcases List.mem_append.1 hx with hx | hx
      · exact h.may x hx
      · rw [List.mem_singleton.1 hx]; exact he
    · rw [Vw.run_snoc, h.run]; exact hv
    · show M.count + 1 = _
      rw [h.count]; simp
  · exact absurd h0 a
  · exact absurd h0 a
/-- An Open of a disk that nothing stops. -/
theorem opens_hale {d : Sd} {n G : Nat} {t : List UInt8} {l lc : Nat} {v : Vw} {k stop : Nat} (hh : d.ct.hale) (h : d.co.In) (hn1 : 1 ≤ n) (hnG : n ≤ G) (hG : G + 1 ≤ 1073741824) (hu : Gw.Under d.co G) (hm : d.co.most + 1 < 64) (hq : d.co.total + 2300 ≤ d.quota)
    (hc : d.co.Now kCur (headB n) lc) (hn : d.co.Now (Mw.man n) t l) (hv : Vw.views t = some (v, k, stop)) (hok : v.ok = true) : ∃ d' M', Gw.opens d = (some M', d', 0) ∧ M'.v = v ∧ M'.broken = false ∧ d'.ct = d.ct := by
  have hl := look_now hh.1 hn1 (by omega) hc hn hv
  unfold Gw.opens
  rw [hl]
  simp only
  split
  · have hgl : Mn.greatest d.list Mn.kMan ≤ G := Gw.greatest_le (by omega) (fun s hs => hu s (.inl ((Gw.mem_list_names hh.1).1 hs)))
    have hg0 := Gw.greatest_nonneg d.list
    obtain ⟨g, hg⟩ : ∃ g : Nat, Mn.greatest d.list Mn.kMan = (g : Int) := ⟨(Mn.greatest d.list Mn.kMan).toNat, by omega⟩
    have hgk : d.names.get (man (g + 1)) = none := by
      cases hgk : d.names.get (man (g + 1)) with
      | none => rfl
      | some j =>
        have h1 := Gw.le_greatest ((Gw.mem_list_names hh.1).2 ⟨_, Nm.get_mem hgk, rfl⟩)
        rw [Gw.numOf_man (by omega) (by omega)] at h1
        omega
    have e : Gw.rewriteM d ⟨man n, v, k, false⟩ = Gw.rewrite d ⟨man n, v, k, false⟩ (man (g + 1)) := by
      unfold Gw.rewriteM
      rw [if_neg (by simp), if_neg (by omega), hg]
      rfl
    obtain ⟨h1, h2, h3, h4, h5⟩ := Gw.hale_out (M := ⟨man n, v, k, false⟩) (k := g + 1) hh hok (by omega) (by omega) h hm hq hgk
    rw [e, h1]
    rw [if_neg (by simp)]
    exact ⟨_, _, rfl, rfl, rfl, h2⟩
  · exact ⟨d, _, rfl, rfl, rfl, rfl⟩
end Go.Proofs.YthepokgkfaocmaaGreatDoor

/-
  What Crash leaves, in the words of Cr; a disk behind it is well formed.
-/
namespace Go.Proofs.YthepokgkfaocmaaGreatDoor
open Go Go.RowKit
open Co
namespace Sd
/-- Of a file all is kept that lasts, and some of the rest. -/
def CutTo (f f' : List UInt8 × Nat) : Prop := ∃ m, f.2 ≤ m ∧ m ≤ f.1.length ∧ f' = (f.1.take m, m)
theorem kept_le (n : Nat) (x : Int) : kept n x ≤ n := by
  unfold kept
  have h1 := Int.emod_nonneg x (show ((n : Int) + 1) ≠ 0 by omega)
  have h2 := Int.emod_lt_of_pos x (show (0 : Int) < (n : Int) + 1 by omega)
  omega
theorem cutFiles_all : ∀ (L : List Nat) (fs : List (List UInt8 × Nat)) (keep : List Int), (∀ f ∈ fs, f.2 ≤ f.1.length) → (cutFiles L fs keep).1.length = fs.length ∧ ∀ (i : Nat) (f : List UInt8 × Nat), fs[i]? = some f → ∃ f', (cutFiles L fs keep).1[i]? = some f' ∧ (f' = f ∨ CutTo f f') ∧ (i ∈ L → CutTo f f')
  | [], fs, keep, _ => ⟨rfl, fun i f h => ⟨f, h, .inl rfl, fun h => by cases h⟩⟩
  | j :: r, fs, keep, hf => by
    have hcut_self : ∀ f : List UInt8 × Nat, f.2 ≤ f.1.length → f.1.length - f.2 = 0 → CutTo f f := fun f h1 h2 => ⟨f.1.length, h1, Nat.le_refl _, by
      rw [List.take_length]
      exact Prod.ext rfl (by simp only; omega)⟩
    rw [cutFiles]
    split
    · rename_i hn
      obtain ⟨h1, h2⟩ := cutFiles_all r fs keep hf
      refine ⟨h1, fun i f hi => ?_⟩
      obtain ⟨f', a, b, c⟩ := h2 i f hi
      refine ⟨f', a, b, fun hm => ?_⟩
      rcases List.mem_cons.1 hm with rfl | hm
      · rcases b with rfl | b
        · have hg : fs.getD i ([], 0) = f' := by rw [List.getD_eq_getElem?_getD, hi]; rfl
          rw [hg] at hn
          exact hcut_self f' (hf f' (List.mem_of_getElem? hi)) hn
        · exact b
      · exact c hm
    · rename_i hn
      have hg0 : ∃ g, fs[j]? = some g ∧ fs.getD j ([], 0) = g := by
        cases hj : fs[j]? with
        | none => rw [List.getD_eq_getElem?_getD, hj] at hn; simp at hn
        | some g => exact ⟨g, rfl, by rw [List.getD_eq_getElem?_getD, hj]; rfl⟩
      obtain ⟨g, hj, hg⟩ := hg0
      simp only [hg] at hn ⊢
      have hgl := hf g (List.mem_of_getElem? hj)
      have hk := kept_le (g.1.length - g.2) (next keep ((g.1.length - g.2 : Nat) : Int)).1
      generalize kept (g.1.length - g.2) (next keep ((g.1.length - g.2 : Nat) : Int)).1 = k at *
      have hlt : (g.1.take (g.2 + k)).length = g.2 + k := by rw [List.length_take]; omega
      rw [hlt]
      have hf' : ∀ f ∈ fs.set j (g.1.take (g.2 + k), g.2 + k), f.2 ≤ f.1.length := fun f hm => by
        rcases List.mem_or_eq_of_mem_set hm with h1 | h1
        · exact hf f h1
        · rw [h1]; simp only; omega
      obtain ⟨h1, h2⟩ := cutFiles_all r (fs.set j (g.1.take (g.2 + k), g.2 + k)) (next keep ((g.1.length - g.2 : Nat) : Int)).2 hf'
      refine ⟨by rw [h1, List.length_set], fun i f hi => ?_⟩
      obtain ⟨hjl, _⟩ := List.getElem?_eq_some_iff.1 hj
      by_cases hij : j = i
      · subst hij
        rw [hj] at hi
        injection hi with hi
        subst hi
        obtain ⟨f', a, b, _⟩ := h2 j (g.1.take (g.2 + k), g.2 + k) (by simp [hjl])
        have hc : CutTo g f' := by
          rcases b with rfl | ⟨m, m1, m2, rfl⟩
          · exact ⟨g.2 + k, by omega, by omega, rfl⟩
          · simp only at m1 m2
            rw [hlt] at m2
            refine ⟨g.2 + k, by omega, by omega, ?_⟩
            have e : m = g.2 + k := by omega
            rw [e, List.take_take, Nat.min_self]
        exact ⟨f', a, .inr hc, fun _ => hc⟩
      · obtain ⟨f', a, b, c⟩ := h2 i f (by rw [List.getElem?_set_ne hij]; exact hi)
        refine ⟨f', a, b, fun hm => ?_⟩
        rcases List.mem_cons.1 hm with h | hm
        · exact absurd h.symm hij
        · exact c hm
theorem doTurns_sub : ∀ (us : List Tn) (m : Nm) (keep : List Int), ∃ vs : List Tn, vs.Sublist us ∧ doTurns us m keep = vs.foldl (fun m u => u.go m) m
  | [], m, _ => ⟨[], List.Sublist.refl _, rfl⟩
  | u :: r, m, keep => by
    rw [doTurns]
    by_cases h : (next keep 0).1 % 2 = 0
    · simp only [h, if_true]
      obtain ⟨vs, a, b⟩ := doTurns_sub r (u.go m) (next keep 0).2
      exact ⟨u :: vs, a.cons_cons u, b⟩
    · simp only [h, if_false]
      obtain ⟨vs, a, b⟩ := doTurns_sub r m (next keep 0).2
      exact ⟨vs, a.cons u, b⟩
variable {d : Sd}
theorem crash_cr (hw : d.Wf) (hi : d.co.In) (keep : List Int) : Cr d.co (d.crash keep).co := by
  have hf : ∀ f ∈ d.files, f.2 ≤ f.1.length := fun f hm => by
    obtain ⟨i, hi, rfl⟩ := List.getElem_of_mem hm
    exact (hw.file i hi).1
  obtain ⟨h1, h2⟩ := cutFiles_all d.led d.files keep hf
  obtain ⟨vs, v1, v2⟩ := doTurns_sub d.turns d.lasted (cutFiles d.led d.files keep).2
  refine ⟨rfl, rfl, rfl, ⟨vs, v1, v2⟩, h1, fun i f hif => ?_⟩
  obtain ⟨f', a, b, c⟩ := h2 i f hif
  refine ⟨f', a, ?_, fun hn hl => ?_⟩
  · rcases b with rfl | ⟨m, m1, m2, rfl⟩
    · exact Nat.le_refl _
    · simp only [List.length_take]; omega
  · obtain ⟨p, hp, rfl⟩ := hn
    have hled : p.2 ∈ d.led := by
      have hlt : p.2 < d.files.length := (List.getElem?_eq_some_iff.1 hif).1
      unfold led
      refine List.mem_filter.2 ⟨List.mem_range.2 hlt, ?_⟩
      have hp' : p ∈ doTurns d.turns d.lasted (cutFiles d.led d.files keep).2 := hp
      rw [v2] at hp'
      unfold isLed
      rcases fold_mem hp' with h3 | ⟨q, hq, e⟩
      · have h4 := (made_sub v1).subset h3
        unfold made at h4
        obtain ⟨t, ht, e⟩ := List.mem_map.1 h4
        obtain ⟨ht1, ht2⟩ := List.mem_filter.1 ht
        have : (d.turns.any fun t => decide (t.kind = 1) && decide (t.file = p.2)) = true := by
          rw [List.any_eq_true]
          exact ⟨t, ht1, by simp only [decide_eq_true_eq] at ht2; simp [ht2, e]⟩
        rw [this]
        rfl
      · have : (d.lasted.any fun x => decide (x.2 = p.2)) = true := by
          rw [List.any_eq_true]
          exact ⟨q, hq, by simp [e]⟩
        rw [this]
        simp
    exact c hled
theorem crash_hale (d : Sd) (keep : List Int) : (d.crash keep).ct.hale := ⟨rfl, rfl, rfl⟩
theorem crash_wf (hw : d.Wf) (hi : d.co.In) (hm : d.co.most ≤ 64) (keep : List Int) : (d.crash keep).Wf := by
  have hc := crash_cr hw hi keep
  have hin := hc.in_ hi
  have hml := (hc.most_le hi).2
  obtain ⟨vs, v1, v2⟩ := doTurns_sub d.turns d.lasted (cutFiles d.led d.files keep).2
  have hg : ∀ p ∈ (d.crash keep).names, named p.1 = true := by
    have key : ∀ (us : List Tn) (m : Nm), (∀ p ∈ m, named p.1 = true) → (∀ t ∈ us, named t.a = true ∧ (t.kind = 2 → named t.b = true)) → ∀ p ∈ us.foldl (fun m u => u.go m) m, named p.1 = true := by
      intro us
      induction us with
      | nil => intro m h _; exact h
      | cons u r ih => intro m h ht; exact ih _ (go_named h u (ht u (by simp))) (fun t htr => ht t (by simp [htr]))
    intro p hp
    have hp' : p ∈ doTurns d.turns d.lasted (cutFiles d.led d.files keep).2 := hp
    rw [v2] at hp'
    exact key vs d.lasted hw.glasted (fun t ht => ⟨(hw.gturns t (v1.subset ht)).1, (hw.gturns t (v1.subset ht)).2.1⟩) p hp'
  refine ⟨hw.quota, fun i h => ?_, hin.lead, hin.lead, hin.apart, hin.apart, Nat.le_trans hml hm, fun t ht => (by cases ht), hg, hg, fun t ht => (by cases ht), Nat.zero_le _, Nat.zero_le _⟩
  have hf : ∀ f ∈ d.files, f.2 ≤ f.1.length := fun f hmem => by
    obtain ⟨i, hi, rfl⟩ := List.getElem_of_mem hmem
    exact (hw.file i hi).1
  obtain ⟨h1, h2⟩ := cutFiles_all d.led d.files keep hf
  have hid : i < d.files.length := by
    have : (cutFiles d.led d.files keep).1.length = (d.crash keep).files.length := rfl
    omega
  obtain ⟨f', a, b, _⟩ := h2 i d.files[i] (List.getElem?_eq_getElem hid)
  have e : (d.crash keep).files[i] = f' := by
    have a' : (d.crash keep).files[i]? = some f' := a
    rw [List.getElem?_eq_getElem h] at a'
    exact Option.some.inj a'
  rw [e]
  have := hw.file i hid
  rcases b with rfl | ⟨m, m1, m2, rfl⟩
  · exact this
  · simp only [List.length_take]; omega
theorem crash_load (hw : d.Wf) (keep : List Int) : (d.crash keep).load ≤ d.load := by
  have hf : ∀ f ∈ d.files, f.2 ≤ f.1.length := fun f hmem => by
    obtain ⟨i, hi, rfl⟩ := List.getElem_of_mem hmem
    exact (hw.file i hi).1
  have h1 := (cutFiles_all d.led d.files keep hf).1
  unfold load
  have e1 : (d.crash keep).files.length = d.files.length := h1
  have e2 : (d.crash keep).turns.length = 0 := rfl
  omega
end Sd
/-- Behind a loss of power a manifest's disk in good order is so still. -/
theorem MS.crash {d : Sd} {M : Gs} {n G : Nat} {ts : List Ed} (hw : d.Wf) (h : MS d M n G ts) (keep : List Int) : MS (d.crash keep) M n G ts := by
  have hc := Sd.crash_cr hw h.in_ keep
  exact h.with_ (hc.in_ h.in_) (hc.full h.in_ h.cur) (hc.full h.in_ h.man) (Nat.le_refl _) (h.under.cr hc)
end Go.Proofs.YthepokgkfaocmaaGreatDoor

/-
  ManCrashes in plain Lean: Saves and rewrites on a disk that dies; Opens that are cut.
-/
namespace Go.Proofs.YthepokgkfaocmaaGreatDoor
open Go Go.RowKit
open Co
open Mw (kCur headB)
/-- A disk that leads to a View, all of which lasts. -/
structure DV (d : Sd) (v : Vw) (a : Nat) : Prop where
  in_ : d.co.In
  lead : ∃ n t k stop, 1 ≤ n ∧ n ≤ 50 + a ∧ d.co.Held kCur (headB n) (headB n).length ∧ d.co.Held (Mw.man n) t t.length ∧ Vw.views t = some (v, k, stop)
  ok : v.ok = true
  under : Gw.Under d.co (50 + a)
  most : d.co.most ≤ 50 + 2 * a
  total : d.co.total ≤ 300000 + 3000 * a
  quota : d.quota = 1048576
  load : d.load ≤ 10000 + 100 * a
  fail : d.fail = 0
/-- Behind any loss of power it leads to a View of some. -/
structure SV (d : Sd) (V : Vw → Prop) (a : Nat) : Prop where
  in_ : d.co.In
  lead : ∀ c', Cr d.co c' → ∃ v n t k stop, V v ∧ v.ok = true ∧ 1 ≤ n ∧ n ≤ 50 + a ∧ c'.Held kCur (headB n) (headB n).length ∧ c'.Held (Mw.man n) t t.length ∧ Vw.views t = some (v, k, stop)
  under : Gw.Under d.co (50 + a)
  most : d.co.most ≤ 50 + 2 * a
  total : d.co.total ≤ 300000 + 3000 * a
  quota : d.quota = 1048576
  load : d.load ≤ 10000 + 100 * a
theorem SV.crash {d : Sd} {V : Vw → Prop} {a : Nat} (hw : d.Wf) (h : SV d V a) (keep : List Int) : ∃ v, V v ∧ DV (d.crash keep) v a := by
  have hc := Sd.crash_cr hw h.in_ keep
  obtain ⟨v, n, t, k, stop, hv, hok, n1, n2, hcu, hma, hvw⟩ := h.lead _ hc
  exact ⟨v, hv, hc.in_ h.in_, ⟨n, t, k, stop, n1, n2, hcu, hma, hvw⟩, hok, h.under.cr hc, Nat.le_trans (hc.most_le h.in_).1 h.most, Nat.le_trans hc.total_le h.total, h.quota, Nat.le_trans (Sd.crash_load hw keep) h.load, rfl⟩
theorem DV.sv {d : Sd} {v : Vw} {a : Nat} (h : DV d v a) : SV d (· = v) a :=
  ⟨h.in_, fun c' hc => by
    obtain ⟨n, t, k, stop, n1, n2, hcu, hma, hvw⟩ := h.lead
    exact ⟨v, n, t, k, stop, rfl, h.ok, n1, n2, hc.full h.in_ hcu, hc.full h.in_ hma, hvw⟩, h.under, h.most, h.total, h.quota, h.load⟩
theorem DV.stop {d : Sd} {v : Vw} {a : Nat} (h : DV d v a) (n : Int) : DV (d.setStop n) v a := ⟨h.in_, h.lead, h.ok, h.under, h.most, h.total, h.quota, h.load, h.fail⟩
/-- An Open, cut or not. -/
theorem DV.open_ {d : Sd} {v : Vw} {a : Nat} (hw : d.Wf) (h : DV d v a) (ha : a ≤ 5) : SV (Gw.opens d).2.1 (· = v) (a + 1) := by
  obtain ⟨n, t, k, stop, n1, n2, hcu, hma, hvw⟩ := h.lead
  have hm := h.most
  have ht := h.total
  have hq := h.quota
  have hl := h.load
  have hs := h.sv
  have hsame : SV d (· = v) (a + 1) := ⟨hs.in_, fun c' hc => by
    obtain ⟨v, n, t, k, stop, b1, b2, b3, b4, b5⟩ := hs.lead c' hc
    exact ⟨v, n, t, k, stop, b1, b2, b3, by omega, b5⟩, fun s hx => by have := h.under s hx; omega, by omega, by omega, hq, by omega⟩
  by_cases hd : d.dead = true
  · have hr : d.read kCur = ([], 50) := by
      unfold Sd.read
      rw [if_neg (by rw [Mw.cur_named]; simp), if_pos hd]
    have : (Gw.opens d).2.1 = d := by
      unfold Gw.opens Gw.look
      rw [hr, if_pos (by simp)]
    rw [this]
    exact hsame
  · have hd : d.dead = false := by simpa using hd
    have hlk := look_now hd n1 (by omega) (Held.now hcu) (Held.now hma) hvw
    have hrw : SV (Gw.rewriteM d ⟨Mw.man n, v, k, false⟩).1 (· = v) (a + 1) := by
      obtain ⟨k', k1, k2, L⟩ := Gw.rewriteM_out (d := d) (M := ⟨Mw.man n, v, k, false⟩) (G := 50 + a) rfl h.ok n1 (by omega) h.under h.in_ (by omega) (by omega) hcu hma n2
      have hu1 := h.under.keeps L.keeps (Gw.numOf_K k1 (by omega) k2) (Nat.le_succ _)
      have hkm := L.keeps.most
      have hkt := L.keeps.total
      have hkq : (Gw.rewriteM d ⟨Mw.man n, v, k, false⟩).1.quota = 1048576 := Eq.trans L.keeps.quota hq
      have hld := Gw.rewriteM_load hw ⟨Mw.man n, v, k, false⟩
      have hvk : Vw.views v.whole.rec_ = some (v, 1, (Ed.text [v.whole]).length) := by
        rw [← Ed.text_one, Vw.views_text _ (fun x hx => by rw [List.mem_singleton.1 hx]; exact Vw.whole_may h.ok) (by simp), Vw.run_whole h.ok]
        rfl
      refine ⟨L.keeps.in_, fun c' hc => ?_, hu1, (by clear hkq hkt; omega), Nat.le_trans hkt (by clear hkq hkt; omega), hkq, (by clear hkq hkt; omega)⟩
      have hin := L.keeps.in_
      rcases L.out with ⟨b1, b2, b3, b4, b5⟩ | ⟨b1, b2, b3, b4⟩ | ⟨b1, b2, b3, b4, b5, b6⟩
      · exact ⟨v, k', _, _, _, rfl, h.ok, k1, by omega, hc.full hin b3, hc.full hin b4, hvk⟩
      · exact ⟨v, n, t, k, stop, rfl, h.ok, n1, by omega, hc.full hin b3, hc.full hin b4, hvw⟩
      · rcases b6 c' hc with b7 | b7
        · exact ⟨v, k', _, _, _, rfl, h.ok, k1, by omega, b7, hc.full hin b4, hvk⟩
        · exact ⟨v, n, t, k, stop, rfl, h.ok, n1, by omega, b7, hc.full hin b5, hvw⟩
    unfold Gw.opens
    rw [hlk]
    simp only
    split
    · split
      · exact hrw
      · exact hrw
    · exact hsame
/-- The last Open. -/
theorem DV.last {d : Sd} {v : Vw} {a : Nat} (h : DV d v a) (hh : d.ct.hale) (ha : a ≤ 6) : ∃ d' M', Gw.opens d = (some M', d', 0) ∧ M'.v = v ∧ M'.broken = false := by
  obtain ⟨n, t, k, stop, n1, n2, hcu, hma, hvw⟩ := h.lead
  obtain ⟨d', M', a1, a2, a3, _⟩ := opens_hale (d := d) (G := 50 + a) hh h.in_ n1 n2 (by omega) h.under (by have := h.most; omega) (by have := h.total; have := h.quota; omega) (Held.now hcu) (Held.now hma) hvw h.ok
  exact ⟨d', M', a1, a2, a3⟩
/-- Behind i changes, all of them saved; or dead. -/
structure CI (vs : List Vw) (i : Nat) (d : Sd) (M : Gs) (n G : Nat) (ts : List Ed) (a b : Nat) : Prop where
  ms : MS d M n G ts
  fail : d.fail = 0
  view : vs[i]? = some M.v
  g : G ≤ 1 + a
  few : ts.length ≤ 1 + i
  most : d.co.most ≤ 3 + a
  total : d.co.total ≤ 2300 + b
  quota : d.quota = 1048576
  load : d.load ≤ 100 + 100 * a
/-- The views that may be there. -/
def May (vs : List Vw) (i : Nat) (v : Vw) : Prop := vs[i]? = some v ∨ vs[i + 1]? = some v
variable {vs : List Vw} {gs : List Ed} {i n G a b : Nat} {d : Sd} {M : Gs} {ts : List Ed}
theorem CI.mono {a' b' : Nat} (h : CI vs i d M n G ts a b) (ha : a ≤ a') (hb : b ≤ b') : CI vs i d M n G ts a' b' :=
  ⟨h.ms, h.fail, h.view, by have := h.g; omega, h.few, by have := h.most; omega, by have := h.total; omega, h.quota, by have := h.load; omega⟩
theorem CI.sv (h : CI vs i d M n G ts a b) (ha : a ≤ 47) (hb : b ≤ 250000) : SV d (May vs i) 0 := by
  have hg := h.g
  have nG := h.ms.nG
  exact ⟨h.ms.in_, fun c' hc => ⟨M.v, n, _, _, _, .inl h.view, h.ms.ok, h.ms.n1, by omega, hc.full h.ms.in_ h.ms.cur, hc.full h.ms.in_ h.ms.man, h.ms.views⟩, fun s hs => by have := h.ms.under s hs; omega, by have := h.most; omega, by have := h.total; omega, h.quota, by have := h.load; omega⟩
/-- A Save: it goes well, or the disk is dead, and nothing has changed; or it is dead, and the change may last. -/
theorem CI.save (h : CI vs i d M n G ts a b) (hc : GChain gs vs) (hi : i < gs.length) (h45 : i < 46) (ha : a ≤ 47) (hb : b ≤ 240000) :
    (∃ d1 M1 ts1, Gw.save d M gs[i] = (d1, M1, 0) ∧ M1.broken = false ∧ M1.v.ok = true ∧ CI vs (i + 1) d1 M1 n G ts1 a (b + 2012)) ∨
    (∃ d1, Gw.save d M gs[i] = (d1, M, 50) ∧ M.broken = false ∧ d1.dead = true ∧ CI vs i d1 M n G ts a b) ∨
    (∃ d1 M1, Gw.save d M gs[i] = (d1, M1, 50) ∧ M1.broken = true ∧ M1.v.ok = true ∧ d1.dead = true ∧ d1.load ≤ 10000 ∧ d1.fail = 0 ∧ SV d1 (May vs i) 0) := by
  obtain ⟨he, u, v, hu, hv, hap⟩ := hc.step i hi
  have e1 : M.v = u := by have := h.view; rw [hu] at this; injection this with this; exact this.symm
  subst e1
  have hq := h.quota
  have ht := h.total
  have hg := h.g
  have hf := h.few
  have hr := Ed.rec_len he
  have n1 := h.ms.n1
  have nG := h.ms.nG
  obtain ⟨p1, p2⟩ := h.ms.save (by omega) he hap (by omega) (by omega)
  obtain ⟨q1, q2⟩ := p1.ends.nofail h.fail
  have hld := Gw.save_load d M gs[i]
  have hll := h.load
  have hme := h.most
  have hkm := p1.keeps.most
  have hkt := p1.keeps.total
  have hkq : (Gw.save d M gs[i]).1.quota = 1048576 := Eq.trans p1.keeps.quota hq
  by_cases h0 : (Gw.save d M gs[i]).2.2 = 0
  · have hm := p2 h0
    rcases p1.out with ⟨_, b1, _⟩ | ⟨b1, _⟩ | ⟨b1, _⟩
    · exact .inl ⟨(Gw.save d M gs[i]).1, { M with count := M.count + 1, v := v }, ts ++ [gs[i]], Prod.ext rfl (Prod.ext b1 h0), h.ms.broken, Vw.app_ok hap, hm, q1, hv, hg, by rw [List.length_append]; simp; omega, (by clear hkq hkt; omega), Nat.le_trans hkt (by clear hkq hkt; omega), hkq, (by clear hkq hkt; omega)⟩
    · exact absurd h0 b1
    · exact absurd h0 b1
  have h50 : (Gw.save d M gs[i]).2.2 = 50 ∧ (Gw.save d M gs[i]).1.ct.dead = true := by
    rcases q2 with q2 | q2
    · exact absurd q2 h0
    · exact q2
  rcases p1.out with ⟨b1, _⟩ | ⟨_, b2, b3⟩ | ⟨_, b2, b3⟩
  · exact absurd b1 h0
  · refine .inr (.inl ⟨(Gw.save d M gs[i]).1, Prod.ext rfl (Prod.ext b2 h50.1), h.ms.broken, h50.2, ?_⟩)
    exact ⟨h.ms.with_ (by rw [b3]; exact h.ms.in_) (by rw [b3]; exact h.ms.cur) (by rw [b3]; exact h.ms.man) (Nat.le_refl _) (by rw [b3]; exact h.ms.under), q1, h.view, hg, hf, by rw [b3]; exact hme, by rw [b3]; exact ht, hkq, (by clear hkq hkt; omega)⟩
  · refine .inr (.inr ⟨(Gw.save d M gs[i]).1, { M with count := M.count + 1, v := v, broken := true }, Prod.ext rfl (Prod.ext b2 h50.1), rfl, Vw.app_ok hap, h50.2, (by clear hkq hkt; omega), q1, ?_⟩)
    have hcur := p1.keeps.held _ (Mw.man_cur n1 (by omega)).symm _ _ h.ms.cur
    have hin := p1.keeps.in_
    have hun := h.ms.under.keeps p1.keeps (fun s hs => by cases hs) (Nat.le_refl _)
    refine ⟨hin, fun c' hcr => ?_, fun s hs => by have := hun s hs; omega, (by clear hkq hkt; omega), Nat.le_trans hkt (by clear hkq hkt; omega), hkq, (by clear hkq hkt; omega)⟩
    obtain ⟨m, m1, m2, hm⟩ := hcr.held hin b3 (by rw [List.length_append]; omega)
    have hcu := hcr.full hin hcur
    have hmay : ∀ x ∈ ts ++ [gs[i]], x.may = true := fun x hx => by
      rcases List.mem_append.1 hx with hx | hx
      · exact h.ms.may x hx
      · rw [List.mem_singleton.1 hx]; exact he
    by_cases hfull : m = (Ed.text ts ++ gs[i].rec_).length
    · subst hfull
      rw [List.take_length, ← Ed.text_snoc] at hm
      refine ⟨v, n, _, (ts ++ [gs[i]]).length, (Ed.text (ts ++ [gs[i]])).length, .inr hv, Vw.app_ok hap, n1, by omega, hcu, hm, ?_⟩
      rw [Vw.views_text _ hmay (by simp), Vw.run_snoc, h.ms.run]
      simp [hap]
    · rw [List.length_append] at hfull m2
      have e2 : (Ed.text ts ++ gs[i].rec_).take m = Ed.text ts ++ gs[i].rec_.take (m - (Ed.text ts).length) := by
        rw [List.take_append, List.take_of_length_le m1]
      have e3 : m = (Ed.text ts ++ gs[i].rec_.take (m - (Ed.text ts).length)).length := by
        rw [List.length_append, List.length_take]; omega
      rw [e2] at hm
      have hvw := Vw.views_cut ts h.ms.may h.ms.ne gs[i] he (m - (Ed.text ts).length) (by omega)
      rw [h.ms.run] at hvw
      refine ⟨M.v, n, _, ts.length, (Ed.text ts).length, .inl h.view, h.ms.ok, n1, by omega, hcu, ?_, hvw⟩
      rw [← e3]
      exact hm
/-- A rewrite, whatever comes of it. -/
theorem CI.rewrite (hw : d.Wf) (h : CI vs i d M n G ts a b) (ha : a ≤ 45) (hb : b ≤ 240000) :
    (∃ d1 M1 n1 G1 ts1 er, Gw.rewriteM d M = (d1, M1, er) ∧ M1.broken = false ∧ CI vs i d1 M1 n1 G1 ts1 (a + 1) (b + 2300)) ∨
    (∃ d1 M1, Gw.rewriteM d M = (d1, M1, 50) ∧ d1.dead = true ∧ d1.load ≤ 10000 ∧ SV d1 (May vs i) 0) := by
  have hq := h.quota
  have ht := h.total
  have hg := h.g
  have hf := h.few
  have hme := h.most
  have nG := h.ms.nG
  obtain ⟨k, k1, k2, L⟩ := Gw.rewriteM_out (d := d) h.ms.broken h.ms.ok h.ms.n1 (by omega) h.ms.under h.ms.in_ (by omega) (by omega) h.ms.cur h.ms.man h.ms.nG
  obtain ⟨q1, q2⟩ := L.ends.nofail h.fail
  have hld := Gw.rewriteM_load hw M
  have hll := h.load
  have hkm := L.keeps.most
  have hkt := L.keeps.total
  have hkq : (Gw.rewriteM d M).1.quota = 1048576 := Eq.trans L.keeps.quota hq
  have hin := L.keeps.in_
  have hu1 := h.ms.under.keeps L.keeps (Gw.numOf_K k1 (by omega) k2) (Nat.le_succ G)
  have hvk : Vw.views M.v.whole.rec_ = some (M.v, 1, (Ed.text [M.v.whole]).length) := by
    rw [← Ed.text_one, Vw.views_text _ (fun x hx => by rw [List.mem_singleton.1 hx]; exact Vw.whole_may h.ms.ok) (by simp), Vw.run_whole h.ms.ok]
    rfl
  rcases L.out with ⟨b1, b2, b3, b4, b5⟩ | ⟨b1, b2, b3, b4⟩ | ⟨b1, b2, b3, b4, b5, b6⟩
  · exact .inl ⟨(Gw.rewriteM d M).1, { M with name := Mw.man k, count := 1 }, k, G + 1, [M.v.whole], _, Prod.ext rfl (Prod.ext b2 rfl), h.ms.broken, MS.made hin h.ms.broken h.ms.ok k1 k2 b3 b4 hu1, q1, h.view, by omega, by simp, (by clear hkq hkt; omega), Nat.le_trans hkt (by clear hkq hkt; omega), hkq, (by clear hkq hkt; omega)⟩
  all_goals
    have h50 : (Gw.rewriteM d M).2.2 = 50 ∧ (Gw.rewriteM d M).1.ct.dead = true := by
      rcases q2 with q2 | q2
      · exact absurd q2 b1
      · exact q2
  · refine .inr ⟨(Gw.rewriteM d M).1, (Gw.rewriteM d M).2.1, Prod.ext rfl (Prod.ext rfl h50.1), h50.2, (by clear hkq hkt; omega), hin, fun c' hc => ?_, fun s hs => by have := hu1 s hs; omega, (by clear hkq hkt; omega), Nat.le_trans hkt (by clear hkq hkt; omega), hkq, (by clear hkq hkt; omega)⟩
    exact ⟨M.v, n, _, _, _, .inl h.view, h.ms.ok, h.ms.n1, by omega, hc.full hin b3, hc.full hin b4, h.ms.views⟩
  · refine .inr ⟨(Gw.rewriteM d M).1, (Gw.rewriteM d M).2.1, Prod.ext rfl (Prod.ext rfl h50.1), h50.2, (by clear hkq hkt; omega), hin, fun c' hc => ?_, fun s hs => by have := hu1 s hs; omega, (by clear hkq hkt; omega), Nat.le_trans hkt (by clear hkq hkt; omega), hkq, (by clear hkq hkt; omega)⟩
    rcases b6 c' hc with b7 | b7
    · exact ⟨M.v, k, _, _, _, .inl h.view, h.ms.ok, k1, by omega, b7, hc.full hin b4, hvk⟩
    · exact ⟨M.v, n, _, _, _, .inl h.view, h.ms.ok, h.ms.n1, by omega, b7, hc.full hin b5, h.ms.views⟩
theorem CI.start (hv : vs[0]? = some v1g) (x : Int) : ∃ S1, Gw.rewrite (Sd.new 1048576) ⟨[], v1g, 0, false⟩ (Mw.man 1) = (S1, ⟨Mw.man 1, v1g, 1, false⟩, 0) ∧ CI vs 0 (S1.setStop x) ⟨Mw.man 1, v1g, 1, false⟩ 1 1 [v1g.whole] 0 0 := by
  obtain ⟨S1, h1, h2, h3, h4, h5, h6, h7⟩ := MS.new
  exact ⟨S1, h1, ⟨h2.in_, h2.nm, h2.n1, h2.nG, h2.cur, h2.man, h2.under, h2.may, h2.ne, h2.run, h2.count, h2.broken, h2.ok⟩, h3.2.2, hv, Nat.le_refl _, by simp, Nat.le_trans h4 (by omega), h5, h6, by show S1.load ≤ _; omega⟩
end Go.Proofs.YthepokgkfaocmaaGreatDoor
