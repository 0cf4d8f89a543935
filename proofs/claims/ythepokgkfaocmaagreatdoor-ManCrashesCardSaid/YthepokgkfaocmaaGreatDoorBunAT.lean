/- Texts PlainCrash, CrashP, Led, LedB, CrA in one. No conditions. -/
import Derived.Test.YthepokgkfaocmaaGreatDoorBunAS
import Derived.Test.YthepokgkfaocmaaGreatDoorBunAE
import Derived.Test.YthepokgkfaocmaaGreatDoorBunAO
import Derived.Test.YthepokgkfaocmaaGreatDoorBunAI
import Derived.Test.YthepokgkfaocmaaGreatDoorBunAJ
import Derived.Test.YthepokgkfaocmaaGreatDoorBunAC
import Derived.Test.YthepokgkfaocmaaGreatDoorBunAA

/-
  What Crash leaves, in the words of Cr; a disk behind it is well formed.
-/
namespace Go.Proofs.YthepokgkfaocmaaGreatDoor
open Go Go.RowKit
open Co
namespace Sd
/-- Of a file all is kept that lasts, and some of the rest. -/
def CutTo (f f' : List UInt8 × Nat) : Prop := ∃ m, f.2 ≤ m ∧ m ≤ f.1.length ∧ f' = (f.1.take m, m)
theorem kept_le (n : Nat) (x : Int) : kept n x ≤ n := by
  unfold kept
  have h1 := Int.emod_nonneg x (show ((n : Int) + 1) ≠ 0 by omega)
  have h2 := Int.emod_lt_of_pos x (show (0 : Int) < (n : Int) + 1 by omega)
  omega
theorem cutFiles_all : ∀ (L : List Nat) (fs : List (List UInt8 × Nat)) (keep : List Int), (∀ f ∈ fs, f.2 ≤ f.1.length) → (cutFiles L fs keep).1.length = fs.length ∧ ∀ (i : Nat) (f : List UInt8 × Nat), fs[i]? = some f → ∃ f', (cutFiles L fs keep).1[i]? = some f' ∧ (f' = f ∨ CutTo f f') ∧ (i ∈ L → CutTo f f')
  | [], fs, keep, _ => ⟨rfl, fun i f h => ⟨f, h, .inl rfl, fun h => by cases h⟩⟩
  | j :: r, fs, keep, hf => by
    have hcut_self : ∀ f : List UInt8 × Nat, f.2 ≤ f.1.length → f.1.length - f.2 = 0 → CutTo f f := fun f h1 h2 => ⟨f.1.length, h1, Nat.le_refl _, by
      rw [List.take_length]
      exact Prod.ext rfl (by simp only; omega)⟩
    rw [cutFiles]
    split
    · rename_i hn
      obtain ⟨h1, h2⟩ := cutFiles_all r fs keep hf
      refine ⟨h1, fun i f hi => ?_⟩
      obtain ⟨f', a, b, c⟩ := h2 i f hi
      refine ⟨f', a, b, fun hm => ?_⟩
      rcases List.mem_cons.1 hm with rfl | hm
      · rcases b with rfl | b
        · have hg : fs.getD i ([], 0) = f' := by rw [List.getD_eq_getElem?_getD, hi]; rfl
          rw [hg] at hn
          exact hcut_self f' (hf f' (List.mem_of_getElem? hi)) hn
        · exact b
      · exact c hm
    · rename_i hn
      have hg0 : ∃ g, fs[j]? = some g ∧ fs.getD j ([], 0) = g := by
        cases hj : fs[j]? with
        | none => rw [List.getD_eq_getElem?_getD, hj] at hn; simp at hn
        | some g => exact ⟨g, rfl, by rw [List.getD_eq_getElem?_getD, hj]; rfl⟩
      obtain ⟨g, hj, hg⟩ := hg0
      simp only [hg] at hn ⊢
      have hgl := hf g (List.mem_of_getElem? hj)
      have hk := kept_le (g.1.length - g.2) (next keep ((g.1.length - g.2 : Nat) : Int)).1
      generalize kept (g.1.length - g.2) (next keep ((g.1.length - g.2 : Nat) : Int)).1 = k at *
      have hlt : (g.1.take (g.2 + k)).length = g.2 + k := by rw [List.length_take]; omega
      rw [hlt]
      have hf' : ∀ f ∈ fs.set j (g.1.take (g.2 + k), g.2 + k), f.2 ≤ f.1.length := fun f hm => by
        rcases List.mem_or_eq_of_mem_set hm with h1 | h1
        · exact hf f h1
        · rw [h1]; simp only; omega
      obtain ⟨h1, h2⟩ := cutFiles_all r (fs.set j (g.1.take (g.2 + k), g.2 + k)) (next keep ((g.1.length - g.2 : Nat) : Int)).2 hf'
      refine ⟨by rw [h1, List.length_set], fun i f hi => ?_⟩
      obtain ⟨hjl, _⟩ := List.getElem?_eq_some_iff.1 hj
      by_cases hij : j = i
      · subst hij
        rw [hj] at hi
        injection hi with hi
        subst hi
        obtain ⟨f', a, b, _⟩ := h2 j (g.1.take (g.2 + k), g.2 + k) (by simp [hjl])
        have hc : CutTo g f' := by
          rcases b with rfl | ⟨m, m1, m2, rfl⟩
          · exact ⟨g.2 + k, by omega, by omega, rfl⟩
          · simp only at m1 m2
            rw [hlt] at m2
            refine ⟨g.2 + k, by omega, by omega, ?_⟩
            have e : m = g.2 + k := by omega
            rw [e, List.take_take, Nat.min_self]
        exact ⟨f', a, .inr hc, fun _ => hc⟩
      · obtain ⟨f', a, b, c⟩ := h2 i f (by rw [List.getElem?_set_ne hij]; exact hi)
        refine ⟨f', a, b, fun hm => ?_⟩
        rcases List.mem_cons.1 hm with h | hm
        · exact absurd h.symm hij
        · exact c hm
theorem doTurns_sub : ∀ (us : List Tn) (m : Nm) (keep : List Int), ∃ vs : List Tn, vs.Sublist us ∧ doTurns us m keep = vs.foldl (fun m u => u.go m) m
  | [], m, _ => ⟨[], List.Sublist.refl _, rfl⟩
  | u :: r, m, keep => by
    rw [doTurns]
    by_cases h : (next keep 0).1 % 2 = 0
    · simp only [h, if_true]
      obtain ⟨vs, a, b⟩ := doTurns_sub r (u.go m) (next keep 0).2
      exact ⟨u :: vs, a.cons_cons u, b⟩
    · simp only [h, if_false]
      obtain ⟨vs, a, b⟩ := doTurns_sub r m (next keep 0).2
      exact ⟨vs, a.cons u, b⟩
variable {d : Sd}
theorem crash_cr (hw : d.Wf) (hi : d.co.In) (keep : List Int) : Cr d.co (d.crash keep).co := by
  have hf : ∀ f ∈ d.files, f.2 ≤ f.1.length := fun f hm => by
    obtain ⟨i, hi, rfl⟩ := List.getElem_of_mem hm
    exact (hw.file i hi).1
  obtain ⟨h1, h2⟩ := cutFiles_all d.led d.files keep hf
  obtain ⟨vs, v1, v2⟩ := doTurns_sub d.turns d.lasted (cutFiles d.led d.files keep).2
  refine ⟨rfl, rfl, rfl, ⟨vs, v1, v2⟩, h1, fun i f hif => ?_⟩
  obtain ⟨f', a, b, c⟩ := h2 i f hif
  refine ⟨f', a, ?_, fun hn hl => ?_⟩
  · rcases b with rfl | ⟨m, m1, m2, rfl⟩
    · exact Nat.le_refl _
    · simp only [List.length_take]; omega
  · obtain ⟨p, hp, rfl⟩ := hn
    have hled : p.2 ∈ d.led := by
      have hlt : p.2 < d.files.length := (List.getElem?_eq_some_iff.1 hif).1
      unfold led
      refine List.mem_filter.2 ⟨List.mem_range.2 hlt, ?_⟩
      have hp' : p ∈ doTurns d.turns d.lasted (cutFiles d.led d.files keep).2 := hp
      rw [v2] at hp'
      unfold isLed
      rcases fold_mem hp' with h3 | ⟨q, hq, e⟩
      · have h4 := (made_sub v1).subset h3
        unfold made at h4
        obtain ⟨t, ht, e⟩ := List.mem_map.1 h4
        obtain ⟨ht1, ht2⟩ := List.mem_filter.1 ht
        have : (d.turns.any fun t => decide (t.kind = 1) && decide (t.file = p.2)) = true := by
          rw [List.any_eq_true]
          exact ⟨t, ht1, by simp only [decide_eq_true_eq] at ht2; simp [ht2, e]⟩
        rw [this]
        rfl
      · have : (d.lasted.any fun x => decide (x.2 = p.2)) = true := by
          rw [List.any_eq_true]
          exact ⟨q, hq, by simp [e]⟩
        rw [this]
        simp
    exact c hled
theorem crash_hale (d : Sd) (keep : List Int) : (d.crash keep).ct.hale := ⟨rfl, rfl, rfl⟩
theorem crash_wf (hw : d.Wf) (hi : d.co.In) (hm : d.co.most ≤ 64) (keep : List Int) : (d.crash keep).Wf := by
  have hc := crash_cr hw hi keep
  have hin := hc.in_ hi
  have hml := (hc.most_le hi).2
  obtain ⟨vs, v1, v2⟩ := doTurns_sub d.turns d.lasted (cutFiles d.led d.files keep).2
  have hg : ∀ p ∈ (d.crash keep).names, named p.1 = true := by
    have key : ∀ (us : List Tn) (m : Nm), (∀ p ∈ m, named p.1 = true) → (∀ t ∈ us, named t.a = true ∧ (t.kind = 2 → named t.b = true)) → ∀ p ∈ us.foldl (fun m u => u.go m) m, named p.1 = true := by
      intro us
      induction us with
      | nil => intro m h _; exact h
      | cons u r ih => intro m h ht; exact ih _ (go_named h u (ht u (by simp))) (fun t htr => ht t (by simp [htr]))
    intro p hp
    have hp' : p ∈ doTurns d.turns d.lasted (cutFiles d.led d.files keep).2 := hp
    rw [v2] at hp'
    exact key vs d.lasted hw.glasted (fun t ht => ⟨(hw.gturns t (v1.subset ht)).1, (hw.gturns t (v1.subset ht)).2.1⟩) p hp'
  refine ⟨hw.quota, fun i h => ?_, hin.lead, hin.lead, hin.apart, hin.apart, Nat.le_trans hml hm, fun t ht => (by cases ht), hg, hg, fun t ht => (by cases ht), Nat.zero_le _, Nat.zero_le _⟩
  have hf : ∀ f ∈ d.files, f.2 ≤ f.1.length := fun f hmem => by
    obtain ⟨i, hi, rfl⟩ := List.getElem_of_mem hmem
    exact (hw.file i hi).1
  obtain ⟨h1, h2⟩ := cutFiles_all d.led d.files keep hf
  have hid : i < d.files.length := by
    have : (cutFiles d.led d.files keep).1.length = (d.crash keep).files.length := rfl
    omega
  obtain ⟨f', a, b, _⟩ := h2 i d.files[i] (List.getElem?_eq_getElem hid)
  have e : (d.crash keep).files[i] = f' := by
    have a' : (d.crash keep).files[i]? = some f' := a
    rw [List.getElem?_eq_getElem h] at a'
    exact Option.some.inj a'
  rw [e]
  have := hw.file i hid
  rcases b with rfl | ⟨m, m1, m2, rfl⟩
  · exact this
  · simp only [List.length_take]; omega
theorem crash_load (hw : d.Wf) (keep : List Int) : (d.crash keep).load ≤ d.load := by
  have hf : ∀ f ∈ d.files, f.2 ≤ f.1.length := fun f hmem => by
    obtain ⟨i, hi, rfl⟩ := List.getElem_of_mem hmem
    exact (hw.file i hi).1
  have h1 := (cutFiles_all d.led d.files keep hf).1
  unfold load
  have e1 : (d.crash keep).files.length = d.files.length := h1
  have e2 : (d.crash keep).turns.length = 0 := rfl
  omega
end Sd
/-- Behind a loss of power a manifest's disk in good order is so still. -/
theorem MS.crash {d : Sd} {M : Gs} {n G : Nat} {ts : List Ed} (hw : d.Wf) (h : MS d M n G ts) (keep : List Int) : MS (d.crash keep) M n G ts := by
  have hc := Sd.crash_cr hw h.in_ keep
  exact h.with_ (hc.in_ h.in_) (hc.full h.in_ h.cur) (hc.full h.in_ h.man) (Nat.le_refl _) (h.under.cr hc)
end Go.Proofs.YthepokgkfaocmaaGreatDoor

/-
  ManCrashes in plain Lean: Saves and rewrites on a disk that dies; Opens that are cut.
-/
namespace Go.Proofs.YthepokgkfaocmaaGreatDoor
open Go Go.RowKit
open Co
open Mw (kCur headB)
/-- A disk that leads to a View, all of which lasts. -/
structure DV (d : Sd) (v : Vw) (a : Nat) : Prop where
  in_ : d.co.In
  lead : ∃ n t k stop, 1 ≤ n ∧ n ≤ 50 + a ∧ d.co.Held kCur (headB n) (headB n).length ∧ d.co.Held (Mw.man n) t t.length ∧ Vw.views t = some (v, k, stop)
  ok : v.ok = true
  under : Gw.Under d.co (50 + a)
  most : d.co.most ≤ 50 + 2 * a
  total : d.co.total ≤ 300000 + 3000 * a
  quota : d.quota = 1048576
  load : d.load ≤ 10000 + 100 * a
  fail : d.fail = 0
/-- Behind any loss of power it leads to a View of some. -/
structure SV (d : Sd) (V : Vw → Prop) (a : Nat) : Prop where
  in_ : d.co.In
  lead : ∀ c', Cr d.co c' → ∃ v n t k stop, V v ∧ v.ok = true ∧ 1 ≤ n ∧ n ≤ 50 + a ∧ c'.Held kCur (headB n) (headB n).length ∧ c'.Held (Mw.man n) t t.length ∧ Vw.views t = some (v, k, stop)
  under : Gw.Under d.co (50 + a)
  most : d.co.most ≤ 50 + 2 * a
  total : d.co.total ≤ 300000 + 3000 * a
  quota : d.quota = 1048576
  load : d.load ≤ 10000 + 100 * a
theorem SV.crash {d : Sd} {V : Vw → Prop} {a : Nat} (hw : d.Wf) (h : SV d V a) (keep : List Int) : ∃ v, V v ∧ DV (d.crash keep) v a := by
  have hc := Sd.crash_cr hw h.in_ keep
  obtain ⟨v, n, t, k, stop, hv, hok, n1, n2, hcu, hma, hvw⟩ := h.lead _ hc
  exact ⟨v, hv, hc.in_ h.in_, ⟨n, t, k, stop, n1, n2, hcu, hma, hvw⟩, hok, h.under.cr hc, Nat.le_trans (hc.most_le h.in_).1 h.most, Nat.le_trans hc.total_le h.total, h.quota, Nat.le_trans (Sd.crash_load hw keep) h.load, rfl⟩
theorem DV.sv {d : Sd} {v : Vw} {a : Nat} (h : DV d v a) : SV d (· = v) a :=
  ⟨h.in_, fun c' hc => by
    obtain ⟨n, t, k, stop, n1, n2, hcu, hma, hvw⟩ := h.lead
    exact ⟨v, n, t, k, stop, rfl, h.ok, n1, n2, hc.full h.in_ hcu, hc.full h.in_ hma, hvw⟩, h.under, h.most, h.total, h.quota, h.load⟩
theorem DV.stop {d : Sd} {v : Vw} {a : Nat} (h : DV d v a) (n : Int) : DV (d.setStop n) v a := ⟨h.in_, h.lead, h.ok, h.under, h.most, h.total, h.quota, h.load, h.fail⟩
/-- An Open, cut or not. -/
theorem DV.open_ {d : Sd} {v : Vw} {a : Nat} (hw : d.Wf) (h : DV d v a) (ha : a ≤ 5) : SV (Gw.opens d).2.1 (· = v) (a + 1) := by
  obtain ⟨n, t, k, stop, n1, n2, hcu, hma, hvw⟩ := h.lead
  have hm := h.most
  have ht := h.total
  have hq := h.quota
  have hl := h.load
  have hs := h.sv
  have hsame : SV d (· = v) (a + 1) := ⟨hs.in_, fun c' hc => by
    obtain ⟨v, n, t, k, stop, b1, b2, b3, b4, b5⟩ := hs.lead c' hc
    exact ⟨v, n, t, k, stop, b1, b2, b3, by omega, b5⟩, fun s hx => by have := h.under s hx; omega, by omega, by omega, hq, by omega⟩
  by_cases hd : d.dead = true
  · have hr : d.read kCur = ([], 50) := by
      unfold Sd.read
      rw [if_neg (by rw [Mw.cur_named]; simp), if_pos hd]
    have : (Gw.opens d).2.1 = d := by
      unfold Gw.opens Gw.look
      rw [hr, if_pos (by simp)]
    rw [this]
    exact hsame
  · have hd : d.dead = false := by simpa using hd
    have hlk := look_now hd n1 (by omega) (Held.now hcu) (Held.now hma) hvw
    have hrw : SV (Gw.rewriteM d ⟨Mw.man n, v, k, false⟩).1 (· = v) (a + 1) := by
      obtain ⟨k', k1, k2, L⟩ := Gw.rewriteM_out (d := d) (M := ⟨Mw.man n, v, k, false⟩) (G := 50 + a) rfl h.ok n1 (by omega) h.under h.in_ (by omega) (by omega) hcu hma n2
      have hu1 := h.under.keeps L.keeps (Gw.numOf_K k1 (by omega) k2) (Nat.le_succ _)
      have hkm := L.keeps.most
      have hkt := L.keeps.total
      have hkq : (Gw.rewriteM d ⟨Mw.man n, v, k, false⟩).1.quota = 1048576 := Eq.trans L.keeps.quota hq
      have hld := Gw.rewriteM_load hw ⟨Mw.man n, v, k, false⟩
      have hvk : Vw.views v.whole.rec_ = some (v, 1, (Ed.text [v.whole]).length) := by
        rw [← Ed.text_one, Vw.views_text _ (fun x hx => by rw [List.mem_singleton.1 hx]; exact Vw.whole_may h.ok) (by simp), Vw.run_whole h.ok]
        rfl
      refine ⟨L.keeps.in_, fun c' hc => ?_, hu1, (by clear hkq hkt; omega), Nat.le_trans hkt (by clear hkq hkt; omega), hkq, (by clear hkq hkt; omega)⟩
      have hin := L.keeps.in_
      rcases L.out with ⟨b1, b2, b3, b4, b5⟩ | ⟨b1, b2, b3, b4⟩ | ⟨b1, b2, b3, b4, b5, b6⟩
      · exact ⟨v, k', _, _, _, rfl, h.ok, k1, by omega, hc.full hin b3, hc.full hin b4, hvk⟩
      · exact ⟨v, n, t, k, stop, rfl, h.ok, n1, by omega, hc.full hin b3, hc.full hin b4, hvw⟩
      · rcases b6 c' hc with b7 | b7
        · exact ⟨v, k', _, _, _, rfl, h.ok, k1, by omega, b7, hc.full hin b4, hvk⟩
        · exact ⟨v, n, t, k, stop, rfl, h.ok, n1, by omega, b7, hc.full hin b5, hvw⟩
    unfold Gw.opens
    rw [hlk]
    simp only
    split
    · split
      · exact hrw
      · exact hrw
    · exact hsame
/-- The last Open. -/
theorem DV.last {d : Sd} {v : Vw} {a : Nat} (h : DV d v a) (hh : d.ct.hale) (ha : a ≤ 6) : ∃ d' M', Gw.opens d = (some M', d', 0) ∧ M'.v = v ∧ M'.broken = false := by
  obtain ⟨n, t, k, stop, n1, n2, hcu, hma, hvw⟩ := h.lead
  obtain ⟨d', M', a1, a2, a3, _⟩ := opens_hale (d := d) (G := 50 + a) hh h.in_ n1 n2 (by omega) h.under (by have := h.most; omega) (by have := h.total; have := h.quota; omega) (Held.now hcu) (Held.now hma) hvw h.ok
  exact ⟨d', M', a1, a2, a3⟩
/-- Behind i changes, all of them saved; or dead. -/
structure CI (vs : List Vw) (i : Nat) (d : Sd) (M : Gs) (n G : Nat) (ts : List Ed) (a b : Nat) : Prop where
  ms : MS d M n G ts
  fail : d.fail = 0
  view : vs[i]? = some M.v
  g : G ≤ 1 + a
  few : ts.length ≤ 1 + i
  most : d.co.most ≤ 3 + a
  total : d.co.total ≤ 2300 + b
  quota : d.quota = 1048576
  load : d.load ≤ 100 + 100 * a
/-- The views that may be there. -/
def May (vs : List Vw) (i : Nat) (v : Vw) : Prop := vs[i]? = some v ∨ vs[i + 1]? = some v
variable {vs : List Vw} {gs : List Ed} {i n G a b : Nat} {d : Sd} {M : Gs} {ts : List Ed}
theorem CI.mono {a' b' : Nat} (h : CI vs i d M n G ts a b) (ha : a ≤ a') (hb : b ≤ b') : CI vs i d M n G ts a' b' :=
  ⟨h.ms, h.fail, h.view, by have := h.g; omega, h.few, by have := h.most; omega, by have := h.total; omega, h.quota, by have := h.load; omega⟩
theorem CI.sv (h : CI vs i d M n G ts a b) (ha : a ≤ 47) (hb : b ≤ 250000) : SV d (May vs i) 0 := by
  have hg := h.g
  have nG := h.ms.nG
  exact ⟨h.ms.in_, fun c' hc => ⟨M.v, n, _, _, _, .inl h.view, h.ms.ok, h.ms.n1, by omega, hc.full h.ms.in_ h.ms.cur, hc.full h.ms.in_ h.ms.man, h.ms.views⟩, fun s hs => by have := h.ms.under s hs; omega, by have := h.most; omega, by have := h.total; omega, h.quota, by have := h.load; omega⟩
/-- A Save: it goes well, or the disk is dead, and nothing has changed; or it is dead, and the change may last. -/
theorem CI.save (h : CI vs i d M n G ts a b) (hc : GChain gs vs) (hi : i < gs.length) (h45 : i < 46) (ha : a ≤ 47) (hb : b ≤ 240000) :
    (∃ d1 M1 ts1, Gw.save d M gs[i] = (d1, M1, 0) ∧ M1.broken = false ∧ M1.v.ok = true ∧ CI vs (i + 1) d1 M1 n G ts1 a (b + 2012)) ∨
    (∃ d1, Gw.save d M gs[i] = (d1, M, 50) ∧ M.broken = false ∧ d1.dead = true ∧ CI vs i d1 M n G ts a b) ∨
    (∃ d1 M1, Gw.save d M gs[i] = (d1, M1, 50) ∧ M1.broken = true ∧ M1.v.ok = true ∧ d1.dead = true ∧ d1.load ≤ 10000 ∧ d1.fail = 0 ∧ SV d1 (May vs i) 0) := by
  obtain ⟨he, u, v, hu, hv, hap⟩ := hc.step i hi
  have e1 : M.v = u := by have := h.view; rw [hu] at this; injection this with this; exact this.symm
  subst e1
  have hq := h.quota
  have ht := h.total
  have hg := h.g
  have hf := h.few
  have hr := Ed.rec_len he
  have n1 := h.ms.n1
  have nG := h.ms.nG
  obtain ⟨p1, p2⟩ := h.ms.save (by omega) he hap (by omega) (by omega)
  obtain ⟨q1, q2⟩ := p1.ends.nofail h.fail
  have hld := Gw.save_load d M gs[i]
  have hll := h.load
  have hme := h.most
  have hkm := p1.keeps.most
  have hkt := p1.keeps.total
  have hkq : (Gw.save d M gs[i]).1.quota = 1048576 := Eq.trans p1.keeps.quota hq
  by_cases h0 : (Gw.save d M gs[i]).2.2 = 0
  · have hm := p2 h0
    rcases p1.out with ⟨_, b1, _⟩ | ⟨b1, _⟩ | ⟨b1, _⟩
    · exact .inl ⟨(Gw.save d M gs[i]).1, { M with count := M.count + 1, v := v }, ts ++ [gs[i]], Prod.ext rfl (Prod.ext b1 h0), h.ms.broken, Vw.app_ok hap, hm, q1, hv, hg, by rw [List.length_append]; simp; omega, (by clear hkq hkt; omega), Nat.le_trans hkt (by clear hkq hkt; omega), hkq, (by clear hkq hkt; omega)⟩
    · exact absurd h0 b1
    · exact absurd h0 b1
  have h50 : (Gw.save d M gs[i]).2.2 = 50 ∧ (Gw.save d M gs[i]).1.ct.dead = true := by
    rcases q2 with q2 | q2
    · exact absurd q2 h0
    · exact q2
  rcases p1.out with ⟨b1, _⟩ | ⟨_, b2, b3⟩ | ⟨_, b2, b3⟩
  · exact absurd b1 h0
  · refine .inr (.inl ⟨(Gw.save d M gs[i]).1, Prod.ext rfl (Prod.ext b2 h50.1), h.ms.broken, h50.2, ?_⟩)
    exact ⟨h.ms.with_ (by rw [b3]; exact h.ms.in_) (by rw [b3]; exact h.ms.cur) (by rw [b3]; exact h.ms.man) (Nat.le_refl _) (by rw [b3]; exact h.ms.under), q1, h.view, hg, hf, by rw [b3]; exact hme, by rw [b3]; exact ht, hkq, (by clear hkq hkt; omega)⟩
  · refine .inr (.inr ⟨(Gw.save d M gs[i]).1, { M with count := M.count + 1, v := v, broken := true }, Prod.ext rfl (Prod.ext b2 h50.1), rfl, Vw.app_ok hap, h50.2, (by clear hkq hkt; omega), q1, ?_⟩)
    have hcur := p1.keeps.held _ (Mw.man_cur n1 (by omega)).symm _ _ h.ms.cur
    have hin := p1.keeps.in_
    have hun := h.ms.under.keeps p1.keeps (fun s hs => by cases hs) (Nat.le_refl _)
    refine ⟨hin, fun c' hcr => ?_, fun s hs => by have := hun s hs; omega, (by clear hkq hkt; omega), Nat.le_trans hkt (by clear hkq hkt; omega), hkq, (by clear hkq hkt; omega)⟩
    obtain ⟨m, m1, m2, hm⟩ := hcr.held hin b3 (by rw [List.length_append]; omega)
    have hcu := hcr.full hin hcur
    have hmay : ∀ x ∈ ts ++ [gs[i]], x.may = true := fun x hx => by
      rcases List.mem_append.1 hx with hx | hx
      · exact h.ms.may x hx
      · rw [List.mem_singleton.1 hx]; exact he
    by_cases hfull : m = (Ed.text ts ++ gs[i].rec_).length
    · subst hfull
      rw [List.take_length, ← Ed.text_snoc] at hm
      refine ⟨v, n, _, (ts ++ [gs[i]]).length, (Ed.text (ts ++ [gs[i]])).length, .inr hv, Vw.app_ok hap, n1, by omega, hcu, hm, ?_⟩
      rw [Vw.views_text _ hmay (by simp), Vw.run_snoc, h.ms.run]
      simp [hap]
    · rw [List.length_append] at hfull m2
      have e2 : (Ed.text ts ++ gs[i].rec_).take m = Ed.text ts ++ gs[i].rec_.take (m - (Ed.text ts).length) := by
        rw [List.take_append, List.take_of_length_le m1]
      have e3 : m = (Ed.text ts ++ gs[i].rec_.take (m - (Ed.text ts).length)).length := by
        rw [List.length_append, List.length_take]; omega
      rw [e2] at hm
      have hvw := Vw.views_cut ts h.ms.may h.ms.ne gs[i] he (m - (Ed.text ts).length) (by omega)
      rw [h.ms.run] at hvw
      refine ⟨M.v, n, _, ts.length, (Ed.text ts).length, .inl h.view, h.ms.ok, n1, by omega, hcu, ?_, hvw⟩
      rw [← e3]
      exact hm
/-- A rewrite, whatever comes of it. -/
theorem CI.rewrite (hw : d.Wf) (h : CI vs i d M n G ts a b) (ha : a ≤ 45) (hb : b ≤ 240000) :
    (∃ d1 M1 n1 G1 ts1 er, Gw.rewriteM d M = (d1, M1, er) ∧ M1.broken = false ∧ CI vs i d1 M1 n1 G1 ts1 (a + 1) (b + 2300)) ∨
    (∃ d1 M1, Gw.rewriteM d M = (d1, M1, 50) ∧ d1.dead = true ∧ d1.load ≤ 10000 ∧ SV d1 (May vs i) 0) := by
  have hq := h.quota
  have ht := h.total
  have hg := h.g
  have hf := h.few
  have hme := h.most
  have nG := h.ms.nG
  obtain ⟨k, k1, k2, L⟩ := Gw.rewriteM_out (d := d) h.ms.broken h.ms.ok h.ms.n1 (by omega) h.ms.under h.ms.in_ (by omega) (by omega) h.ms.cur h.ms.man h.ms.nG
  obtain ⟨q1, q2⟩ := L.ends.nofail h.fail
  have hld := Gw.rewriteM_load hw M
  have hll := h.load
  have hkm := L.keeps.most
  have hkt := L.keeps.total
  have hkq : (Gw.rewriteM d M).1.quota = 1048576 := Eq.trans L.keeps.quota hq
  have hin := L.keeps.in_
  have hu1 := h.ms.under.keeps L.keeps (Gw.numOf_K k1 (by omega) k2) (Nat.le_succ G)
  have hvk : Vw.views M.v.whole.rec_ = some (M.v, 1, (Ed.text [M.v.whole]).length) := by
    rw [← Ed.text_one, Vw.views_text _ (fun x hx => by rw [List.mem_singleton.1 hx]; exact Vw.whole_may h.ms.ok) (by simp), Vw.run_whole h.ms.ok]
    rfl
  rcases L.out with ⟨b1, b2, b3, b4, b5⟩ | ⟨b1, b2, b3, b4⟩ | ⟨b1, b2, b3, b4, b5, b6⟩
  · exact .inl ⟨(Gw.rewriteM d M).1, { M with name := Mw.man k, count := 1 }, k, G + 1, [M.v.whole], _, Prod.ext rfl (Prod.ext b2 rfl), h.ms.broken, MS.made hin h.ms.broken h.ms.ok k1 k2 b3 b4 hu1, q1, h.view, by omega, by simp, (by clear hkq hkt; omega), Nat.le_trans hkt (by clear hkq hkt; omega), hkq, (by clear hkq hkt; omega)⟩
  all_goals
    have h50 : (Gw.rewriteM d M).2.2 = 50 ∧ (Gw.rewriteM d M).1.ct.dead = true := by
      rcases q2 with q2 | q2
      · exact absurd q2 b1
      · exact q2
  · refine .inr ⟨(Gw.rewriteM d M).1, (Gw.rewriteM d M).2.1, Prod.ext rfl (Prod.ext rfl h50.1), h50.2, (by clear hkq hkt; omega), hin, fun c' hc => ?_, fun s hs => by have := hu1 s hs; omega, (by clear hkq hkt; omega), Nat.le_trans hkt (by clear hkq hkt; omega), hkq, (by clear hkq hkt; omega)⟩
    exact ⟨M.v, n, _, _, _, .inl h.view, h.ms.ok, h.ms.n1, by omega, hc.full hin b3, hc.full hin b4, h.ms.views⟩
  · refine .inr ⟨(Gw.rewriteM d M).1, (Gw.rewriteM d M).2.1, Prod.ext rfl (Prod.ext rfl h50.1), h50.2, (by clear hkq hkt; omega), hin, fun c' hc => ?_, fun s hs => by have := hu1 s hs; omega, (by clear hkq hkt; omega), Nat.le_trans hkt (by clear hkq hkt; omega), hkq, (by clear hkq hkt; omega)⟩
    rcases b6 c' hc with b7 | b7
    · exact ⟨M.v, k, _, _, _, .inl h.view, h.ms.ok, k1, by omega, b7, hc.full hin b4, hvk⟩
    · exact ⟨M.v, n, _, _, _, .inl h.view, h.ms.ok, h.ms.n1, by omega, b7, hc.full hin b5, h.ms.views⟩
theorem CI.start (hv : vs[0]? = some v1g) (x : Int) : ∃ S1, Gw.rewrite (Sd.new 1048576) ⟨[], v1g, 0, false⟩ (Mw.man 1) = (S1, ⟨Mw.man 1, v1g, 1, false⟩, 0) ∧ CI vs 0 (S1.setStop x) ⟨Mw.man 1, v1g, 1, false⟩ 1 1 [v1g.whole] 0 0 := by
  obtain ⟨S1, h1, h2, h3, h4, h5, h6, h7⟩ := MS.new
  exact ⟨S1, h1, ⟨h2.in_, h2.nm, h2.n1, h2.nG, h2.cur, h2.man, h2.under, h2.may, h2.ne, h2.run, h2.count, h2.broken, h2.ok⟩, h3.2.2, hv, Nat.le_refl _, by simp, Nat.le_trans h4 (by omega), h5, h6, by show S1.load ≤ _; omega⟩
end Go.Proofs.YthepokgkfaocmaaGreatDoor

/-
  The walk of a disk's led: its two closures, a search in a row of turns.
-/
namespace Go.Proofs.YthepokgkfaocmaaGreatDoor
open Go Go.RowKit Go.Maps

set_option maxRecDepth 100000 in
set_option maxHeartbeats 1000000 in
theorem led1_any (nb : Nat) (M : Nm) (i : Nat) (p : Addr) (w : World) (hM : NamesAt w nb M.length M) (hp : w.cell? p = some (.int .i64 (i : Int))) :
    Calls Tryz.prog 91 #[.map (some nb), .pointer (some p)] w fun e w' => e = .returned (.bool (M.any fun q => decide (q.2 = i))) ∧ Below w.heap.size w w' := by
  have hplt := World.block_lt_of_cell? w _ hp
  obtain ⟨es, hes0, hpw, hkl⟩ := hM.entries law_s
  have hes : es = M.map Nm.lit1 := by
    unfold Nm.enc at hes0
    injection hes0 with hes0
    exact hes0.symm
  clear hes0
  have HES := Lib.hid hes
  clear hes
  obtain ⟨m, hm⟩ : ∃ m, m = Nm.enc M := ⟨_, rfl⟩
  have hown : w.ownsMap Tryz.prog 9 (plainElem (H := Unit) Tryz.prog 3) nb M.length m := by rw [hm]; exact hM
  have HMN := Lib.hid hm
  clear hm hM
  obtain ⟨R, hR⟩ : ∃ R, R = M.any fun q => decide (q.2 = i) := ⟨_, rfl⟩
  rw [← hR]
  have HR := Lib.hid hR
  clear hR
  go_enter Tryz.func91, Tryz.ntmps91
  go_wp2_with (first
    | (at_range; refine wpList_range_own _ rfl _ 70 rfl 9 3 law_s Tryz.underlying70 _ nb _ m rfl hown ?_; intro w0 hrg0 hg0 hs0)
    | go_in)
  go_frame
  have hb0 : Below w.heap.size w w0 := (Below.refl _ _).grown hg0 (Nat.le_refl _) (fun k hk => by cases hk)
  go_loopw [3] (fun s wr => ∃ (left : Lit → Bool) (cnt : Nat), Hid (∀ q ∈ M, left (.string q.1) = false → q.2 ≠ i) ∧ wr.ranges Tryz.prog 9 (plainElem (H := Unit) Tryz.prog 3) nb w.heap.size M.length m left cnt ∧ Below w.heap.size w wr) (fun _ wr => wr.rangeLeft nb w.heap.size)
  case atStart =>
    refine ⟨_, _, Lib.hid (fun q hq hl => ?_), hrg0, hb0⟩
    exfalso
    rw [show m = _ from HMN.out] at hl
    have h1 : Maps.has (Nm.enc M) (.string q.1) = true := by
      show (M.map Nm.lit1).any (fun p => p.1.sameKey (.string q.1)) = true
      rw [List.any_eq_true]
      exact ⟨_, List.mem_map.2 ⟨q, hq, rfl⟩, WideAt.sameKey_self (hkl (Nm.lit1 q) (by rw [show es = _ from HES.out]; exact List.mem_map.2 ⟨q, hq, rfl⟩))⟩
    rw [h1] at hl
    cases hl
  case round =>
    obtain ⟨left, cnt, hno, hrg, hb⟩ := hrel
    go_wp2_with (first
      | (at_next; refine wpList_next_ranges _ rfl _ rfl 9 law_s _ Value.string (Value.int .i64) ?invK ?invV nb w.heap.size _ m left cnt rfl hrg ?hDone ?hMore)
      | go_in)
    case invK => exact fun key kl hk => by obtain ⟨s, rfl, _⟩ := keyOf_string_inv_ hk; exact ⟨s, rfl⟩
    case invV => exact fun v y hv => by obtain ⟨c, rfl, _⟩ := plainElem_int_inv Tryz.underlying3 hv; exact ⟨c, rfl⟩
    case hDone =>
      intro _ hl0
      have hf : R = false := by
        rw [show R = _ from HR.out, List.any_eq_false]
        intro q hq
        have := hno.out q hq (hl0 _)
        simpa using this
      subst hf
      clear hrg hno
      go_wp2
      go_ret
      exact ⟨rfl, hb⟩
    case hMore =>
      intro x c kl y yp w1 cnt1 hkey hlx hv hat hrg1 hlt hg1 hs1 hen
      obtain ⟨s, hxs, hkl2⟩ := keyOf_string_inv_ hkey
      cases hxs
      have hb1 : Below w.heap.size w w1 := hb.grown hg1 hb.size (fun j hj => by cases hj; exact Nat.le_refl _)
      have hp1 : w1.cell? p = some (.int .i64 (i : Int)) := (hb1.cell (p := p) hplt).trans hp
      have hhas : Maps.has m kl = true := Maps.has_true_of_atKey hat
      subst hkl2
      unfold key at hhas hat hlx hrg1
      obtain ⟨k, hgk⟩ : ∃ k, M.get x.data.toList = some k := by
        rw [show m = _ from HMN.out, Nm.enc_has] at hhas
        exact Option.isSome_iff_exists.1 hhas
      have hia := fun z => Nm.enc_at M x.data.toList z hgk
      have hy : y = .lit (.int .i64 (k : Int)) := by rw [← hat .nil, show m = _ from HMN.out, hia]
      obtain ⟨c', hc', hy2, _⟩ := plainElem_int_inv Tryz.underlying3 hv
      cases hc'
      have hck : c = (k : Int) := by
        have h2 := congrArg Prod.fst hy2
        simp only at h2
        rw [h2] at hy
        injection hy with hy
        injection hy with _ hy
      subst hck
      have hmem := Nm.get_mem hgk
      have HG := Lib.hid hgk
      clear hat hia hv hy2 hy hgk hhas hp hrg0 hown hg0 hs0 hg1 hs1
      by_cases hki : k = i
      · have hf : R = true := by
          rw [show R = _ from HR.out, List.any_eq_true]
          exact ⟨_, hmem, by simp [hki]⟩
        subst hf
        subst hki
        clear hmem hno hrg hrg1 hlt
        go_wp2
        go_ret
        exact ⟨rfl, hb1⟩
      · have e1 : ((k : Int) == (i : Int)) = false := by rw [beq_eq_false_iff_ne]; omega
        have hno' : ∀ q ∈ M, (left (.string q.1) && !(Lit.string q.1).sameKey (.string x.data.toList)) = false → q.2 ≠ i := fun q hq hl => by
          cases h1 : left (.string q.1) with
          | false => exact hno.out q hq h1
          | true =>
            rw [h1] at hl
            have h2 : (q.1 == x.data.toList) = true := by
              have e : (Lit.string q.1).sameKey (.string x.data.toList) = (q.1 == x.data.toList) := rfl
              rw [e] at hl
              simpa using hl
            have h3 : q.1 = x.data.toList := by simpa using h2
            have h4 : Nm.get M q.1 = some k := by rw [h3]; exact HG.out
            have hap : Nm.Apart M := by
              have hpw' := hpw
              rw [show es = _ from HES.out, List.pairwise_map] at hpw'
              exact hpw'.imp (fun {a b} hab e => hab (by simp only [Nm.lit1, e]))
            rw [Nm.mem_get hap hq] at h4
            injection h4 with h4
            rw [h4]
            exact hki
        have HNO := Lib.hid hno'
        clear hno' hno hki hmem
        go_wp2
        go_roundw
        case rel => exact ⟨_, cnt1, HNO, hrg1, hb1⟩
        case measure => rw [hrg1.left_eq, hrg.left_eq]; exact hlt

theorem turnCells_len (t : Tn) : (turnCells t).length = 4 := rfl
/-- The turn at place k, as a walk reads it. -/
theorem Row.turn {B n : Nat} {w : World} {A : Option Addr} {ts : List Tn} (h : Row B w A n 4 (ts.flatMap turnCells)) {k : Nat} (hk : k < n) : ∃ a, ∃ hl : k < ts.length, A = some a ∧ a.block < B ∧ w.cell? (a.add (k * 4)) = some (.int .i64 ((ts[k]).kind : Int)) ∧ w.cell? ⟨(a.add (k * 4)).block, (a.add (k * 4)).off + 1, none⟩ = some (.int .i64 ((ts[k]).file : Int)) ∧
    w.cell? ⟨(a.add (k * 4)).block, (a.add (k * 4)).off + 2, none⟩ = some (.string (str (ts[k]).a)) ∧ w.cell? ⟨(a.add (k * 4)).block, (a.add (k * 4)).off + 3, none⟩ = some (.string (str (ts[k]).b)) := by
  have hlen := h.len
  rw [gflat_len turnCells 4 turnCells_len] at hlen
  have hl : k < ts.length := by omega
  have g := fun j (hj : j < 4) => gflat_get turnCells 4 turnCells_len ts k j hl hj
  obtain ⟨a, ea, hb, c0⟩ := row_cell h (g 0 (by omega))
  have cc : ∀ j v, j < 4 → (turnCells ts[k])[j]? = some v → w.cell? (a.add (k * 4 + j)) = some v := fun j v hj hv => by
    obtain ⟨a', ea', _, c⟩ := row_cell h ((g j hj).trans hv)
    rw [ea] at ea'
    injection ea' with ea'
    subst ea'
    exact c
  have cd : ∀ j v, 0 < j → j < 4 → (turnCells ts[k])[j]? = some v → w.cell? ⟨(a.add (k * 4)).block, (a.add (k * 4)).off + j, none⟩ = some v := fun j v h0 hj hv => by
    rw [← fadd_at a (k * 4) h0]
    exact cc j v hj hv
  exact ⟨a, hl, ea, hb, c0, cd 1 _ (by omega) (by omega) rfl, cd 2 _ (by omega) (by omega) rfl, cd 3 _ (by omega) (by omega) rfl⟩
def Tn.makes (i : Nat) (t : Tn) : Bool := decide (t.kind = 1) && decide (t.file = i)
set_option maxRecDepth 100000 in
theorem led2_any (t : Tn) (i : Nat) (p : Addr) (w : World) (hp : w.cell? p = some (.int .i64 (i : Int))) :
    Calls Tryz.prog 93 #[.agg #[.int .i64 (t.kind : Int), .int .i64 (t.file : Int), .string (str t.a), .string (str t.b)], .pointer (some p)] w fun e w' => e = .returned (.bool (t.makes i)) ∧ Below w.heap.size w w' := by
  have hplt := World.block_lt_of_cell? w _ hp
  have hbz := (Below.refl w.heap.size w).alloc (Nat.le_refl _) (.cells #[.int .i64 (t.kind : Int), .int .i64 (t.file : Int), .string (str t.a), .string (str t.b)] 101)
  have hp1 : (w.alloc (.cells #[.int .i64 (t.kind : Int), .int .i64 (t.file : Int), .string (str t.a), .string (str t.b)] 101)).cell? p = some (.int .i64 (i : Int)) := (hbz.cell (p := p) hplt).trans hp
  obtain ⟨R, hR⟩ : ∃ R, R = t.makes i := ⟨_, rfl⟩
  rw [← hR]
  have HB := Lib.hid hbz
  by_cases h1 : t.kind = 1
  · have e1 : ((t.kind : Int) == 1) = true := by rw [beq_iff_eq]; omega
    by_cases h2 : t.file = i
    · have e2 : ((t.file : Int) == (i : Int)) = true := by rw [beq_iff_eq]; omega
      have hf : R = true := by rw [hR]; simp [Tn.makes, h1, h2]
      subst hf
      clear hR h1 h2 hp hbz
      go_enter Tryz.func93, Tryz.ntmps93
      go_wp2
      go_ret
      exact ⟨rfl, HB.out⟩
    · have e2 : ((t.file : Int) == (i : Int)) = false := by rw [beq_eq_false_iff_ne]; omega
      have hf : R = false := by rw [hR]; simp [Tn.makes, h2]
      subst hf
      clear hR h1 h2 hp hbz
      go_enter Tryz.func93, Tryz.ntmps93
      go_wp2
      go_ret
      exact ⟨rfl, HB.out⟩
  · have e1 : ((t.kind : Int) == 1) = false := by rw [beq_eq_false_iff_ne]; omega
    have hf : R = false := by rw [hR]; simp [Tn.makes, h1]
    subst hf
    clear hR h1 hp hbz
    go_enter Tryz.func93, Tryz.ntmps93
    go_wp2
    go_ret
    exact ⟨rfl, HB.out⟩
set_option maxRecDepth 100000 in
theorem thas_led (i : Nat) (p : Addr) (A : Option Addr) (n c : Nat) (ts : List Tn) (w : World) (hn : n ≤ 4611686018427387904) (hr : Row w.heap.size w A n 4 (ts.flatMap turnCells)) (hp : w.cell? p = some (.int .i64 (i : Int))) :
    Calls Tryz.prog 92 #[.slice A n c, .func (.func 93) #[] #[.pointer (some p)]] w fun e w' => e = .returned (.bool (ts.any (Tn.makes i))) ∧ Below w.heap.size w w' := by
  have hplt := World.block_lt_of_cell? w _ hp
  have hidx : Calls Tryz.prog 118 #[.slice A n c, .func (.func 93) #[] #[.pointer (some p)]] w fun e w' => e = .returned (.int .i64 (fidx (Tn.makes i) ts)) ∧ Below w.heap.size w w' := by
    obtain ⟨P, hP⟩ : ∃ P : Tn → Bool, P = Tn.makes i := ⟨_, rfl⟩
    have hK : ∀ t w1, Below w.heap.size w w1 → Calls Tryz.prog 93 #[.agg #[.int .i64 (t.kind : Int), .int .i64 (t.file : Int), .string (str t.a), .string (str t.b)], .pointer (some p)] w1 fun e w' => e = .returned (.bool (P t)) ∧ Below w1.heap.size w1 w' := fun t w1 hb => by
      rw [hP]
      exact led2_any t i p w1 ((hb.cell (p := p) hplt).trans hp)
    rw [← hP]
    have hnn : ts.length = n := by
      have := hr.len
      rw [gflat_len turnCells 4 turnCells_len] at this
      omega
    have HK := Lib.hid hK
    clear hK hP
    go_enter Tryz.func118, Tryz.ntmps118
    go_wp2
    go_loopw [8] (fun i wr => ∃ k : Nat, k ≤ n ∧ i = .int .i64 (k : Int) ∧ Hid ((ts.take k).any P = false) ∧ Below w.heap.size w wr) (fun i _ => n - (intOf i).toNat)
    case atStart => exact ⟨0, Nat.zero_le _, rfl, Lib.hid rfl, Below.refl _ _⟩
    case round =>
      obtain ⟨k, hk, rfl, hb, hbl⟩ := hrel
      by_cases hlt : k < n
      · obtain ⟨a, hl, rfl, hbk, c0, c1, c2, c3⟩ := (hr.below hbl).turn hlt
        have ht := any_take (P := P) hl
        have hs := fun h1 => fidx_some (P := P) hl hb.out h1
        generalize ts[k] = f at *
        have HT := Lib.hid ht
        have HS := Lib.hid hs
        clear ht hs hl
        have hc := HK.out f wr hbl
        cases hp : P f with
        | true =>
          rw [hp] at hc
          have HP := Lib.hid hp
          clear hp
          go_wp2_with fail
          refine hc.mono ?_
          rintro e w1 ⟨rfl, hb1⟩
          go_wp2
          go_ret
          exact ⟨ret_i (HS.out HP.out).symm, later_ hbl hb1⟩
        | false =>
          rw [hp] at hc
          have HP := Lib.hid hp
          clear hp
          go_wp2_with fail
          refine hc.mono ?_
          rintro e w1 ⟨rfl, hb1⟩
          go_wp2
          go_roundw
          case rel => exact ⟨k + 1, by omega, by go_num, Lib.hid (by rw [HT.out, hb.out, HP.out]; rfl), later_ hbl hb1⟩
          case measure => simp [intOf]; omega
      · have hall : fidx P ts = -1 := fidx_none (by
          have hb' := hb.out
          rwa [List.take_of_length_le (by omega)] at hb')
        have HA := Lib.hid hall
        clear hall
        go_wp2
        go_ret
        exact ⟨ret_i HA.out.symm, hbl⟩
  have hge := fidx_ge (Tn.makes i) ts
  generalize fidx (Tn.makes i) ts = j at *
  have HGE := Lib.hid hge
  clear hge
  go_enter Tryz.func92, Tryz.ntmps92
  go_wp2_with fail
  refine hidx.mono ?_
  rintro e w1 ⟨rfl, hb⟩
  clear hidx
  go_wp2
  go_ret
  exact ⟨ret_b HGE.out, hb⟩
end Go.Proofs.YthepokgkfaocmaaGreatDoor

/-
  The walk of a disk's led.
-/
namespace Go.Proofs.YthepokgkfaocmaaGreatDoor
open Go Go.RowKit Go.Maps
theorem led_take (S : Sd) (k : Nat) : (List.range (k + 1)).filter S.isLed = (List.range k).filter S.isLed ++ if S.isLed k then [k] else [] := by
  rw [List.range_succ, List.filter_append]
  congr 1
  by_cases h : S.isLed k <;> simp [h]
def ncells (l : List Nat) : List Value := l.map fun (n : Nat) => .int .i64 (n : Int)
set_option maxRecDepth 100000 in
set_option maxHeartbeats 4000000 in
theorem led_any (X : Dw) (S : Sd) (w : World) (h : DK w X S) (hload : S.load ≤ 1099511627776) :
    Calls Tryz.prog 59 #[.pointer (some ⟨X.d, 0, none⟩)] w fun e w' => ∃ A c, e = .returned (.slice A S.led.length c) ∧ S.led.length ≤ c ∧ c ≤ maxLen ∧ w'.ownsRow w.heap.size 3 1 (.slice A S.led.length c) S.led.length (ncells S.led) ∧ Below w.heap.size w w' := by
  obtain ⟨fA, fc, hfv, hfn, hfm, _⟩ := own_form h.files
  obtain ⟨tA, tc, htv, htn, htm, _⟩ := own_form h.turns
  have hF : S.files.length ≤ 1099511627776 ∧ S.turns.length ≤ 1099511627776 := by unfold Sd.load at hload; omega
  have hcells : ∀ W, Below w.heap.size w W → W.cell? ⟨X.d, 1, none⟩ = some (.slice fA S.files.length fc) ∧ W.cell? ⟨X.d, 2, none⟩ = some (.map (some X.nb)) ∧ W.cell? ⟨X.d, 3, none⟩ = some (.map (some X.lb)) ∧ W.cell? ⟨X.d, 4, none⟩ = some (.slice tA S.turns.length tc) := fun W hb => by
    have hB := (h.below hb).box
    have d1 := hB.cell 1
    have d2 := hB.cell 2
    have d3 := hB.cell 3
    have d4 := hB.cell 4
    simp only [Dw.cells, List.getElem?_cons_zero, List.getElem?_cons_succ] at d1 d2 d3 d4
    rw [hfv] at d1
    rw [htv] at d4
    exact ⟨d1, d2, d3, d4⟩
  have hth := fun (i : Nat) (p : Addr) W (hb : Below w.heap.size w W) (hp : W.cell? p = some (.int .i64 (i : Int))) => thas_led i p tA S.turns.length tc S.turns W (by omega) (by have := (h.below hb).turns; rw [htv] at this; exact Row.own this) hp
  have hln := fun (i : Nat) (p : Addr) W (hb : Below w.heap.size w W) (hp : W.cell? p = some (.int .i64 (i : Int))) => led1_any X.nb S.names i p W (h.below hb).names hp
  have hll := fun (i : Nat) (p : Addr) W (hb : Below w.heap.size w W) (hp : W.cell? p = some (.int .i64 (i : Int))) => led1_any X.lb S.lasted i p W (h.below hb).lasted hp
  have HC := Lib.hid hcells
  have HTH := Lib.hid hth
  have HLN := Lib.hid hln
  have HLL := Lib.hid hll
  have hdlt := h.box.lt
  obtain ⟨ii, hi0, hi1, hi2, hi3⟩ := info_parts info_int
  obtain ⟨d1, d2, d3, d4⟩ := hcells w (Below.refl _ _)
  clear hcells hth hln hll hfv htv h hload d2 d3 d4
  go_enter Tryz.func59, Tryz.ntmps59
  go_wp2
  go_loopw [3, 12] (fun o i wr => ∃ (k : Nat) (oA : Option Addr) (oc : Nat), k ≤ S.files.length ∧ i = .int .i64 (k : Int) ∧ o = .slice oA ((List.range k).filter S.isLed).length oc ∧ ((List.range k).filter S.isLed).length ≤ oc ∧ oc ≤ maxLen ∧ wr.ownsRow w.heap.size 3 1 (.slice oA ((List.range k).filter S.isLed).length oc) ((List.range k).filter S.isLed).length (ncells ((List.range k).filter S.isLed)) ∧ Below w.heap.size w wr) (fun _ i _ => S.files.length - (intOf i).toNat)
  case atStart => exact ⟨0, none, 0, Nat.zero_le _, rfl, rfl, Nat.le_refl _, Nat.zero_le _, (World.ownsRow_nil w w.heap.size 3 1 : w.ownsRow _ _ _ (.slice none 0 0) 0 []), Below.refl _ _⟩
  case round =>
    obtain ⟨k, oA, oc, hk, rfl, rfl, hoc, hom, hown, hb⟩ := hrel
    by_cases hlt : k < S.files.length
    · have hstep := led_take S k
      obtain ⟨L, hL⟩ : ∃ L, L = (List.range k).filter S.isLed := ⟨_, rfl⟩
      have hLl : L.length ≤ k := by rw [hL]; have := List.length_filter_le S.isLed (List.range k); simpa using this
      rw [← hL] at hown hstep hoc
      have hba := hb.alloc hb.size (.cells #[.int .i64 (k : Int)] 3)
      have hp : (wr.alloc (.cells #[.int .i64 (k : Int)] 3)).cell? ⟨wr.heap.size, 0, none⟩ = some (.int .i64 (k : Int)) := by simp
      have hown1 := own_below hown ((Below.refl wr.heap.size wr).alloc (Nat.le_refl _) (.cells #[.int .i64 (k : Int)] 3))
      have HLE := Lib.hid hL
      have HST := Lib.hid hstep
      obtain ⟨d1', d2', d3', d4'⟩ := HC.out _ hba
      have hth := HTH.out k _ _ hba hp
      have hplt : wr.heap.size < (wr.alloc (.cells #[.int .i64 (k : Int)] 3)).heap.size := by simp
      rw [← show L = _ from hL]
      obtain ⟨made, hmade⟩ : ∃ b, b = S.turns.any (Tn.makes k) := ⟨_, rfl⟩
      rw [← hmade] at hth
      have HMD := Lib.hid hmade
      clear hL hstep hown hmade
      go_wp2_with fail
      refine hth.mono ?_
      rintro e w2 ⟨rfl, hb2⟩
      have hb02 := later_ hba hb2
      have hp2 := (hb2.cell (p := ⟨wr.heap.size, 0, none⟩) hplt).trans hp
      have hown2 := own_below hown1 hb2
      have hpl2 : wr.heap.size < w2.heap.size := Nat.lt_of_lt_of_le hplt hb2.size
      clear hth hown1 d1' d2' d3' d4' hba hp hb2 hplt
      go_upto_region 7 with (fail)
      go_cut [38] from 22 to 38 (fun t wx => t = .bool (S.isLed k) ∧ Below w2.heap.size w2 wx)
      case first =>
        obtain ⟨d1', d2', d3', d4'⟩ := HC.out _ hb02
        have hln := HLN.out k _ _ hb02 hp2
        cases made with
        | true =>
          have hm : S.turns.any (Tn.makes k) = true := HMD.out.symm
          have he : S.isLed k = true := by
            unfold Sd.isLed
            rw [show (S.turns.any fun t => decide (t.kind = 1) && decide (t.file = k)) = true from hm]
            rfl
          have HEE := Lib.hid he
          clear he hm hln
          go_wp2
          go_meet
          exact ⟨by rw [HEE.out], Below.refl _ _⟩
        | false =>
          have hm : S.turns.any (Tn.makes k) = false := HMD.out.symm
          have hm1 := Lib.hid hm
          go_wp2_with fail
          refine hln.mono ?_
          rintro e w3 ⟨rfl, hb3⟩
          have hb03 := later_ hb02 hb3
          have hp3 := (hb3.cell (p := ⟨wr.heap.size, 0, none⟩) hpl2).trans hp2
          have hll := HLL.out k _ _ hb03 hp3
          clear hln hm d1' d2' d3' d4'
          obtain ⟨d1', d2', d3', d4'⟩ := HC.out _ hb03
          cases hm : S.names.any (fun q => decide (q.2 = k)) with
          | true =>
            have he : S.isLed k = true := by
              unfold Sd.isLed
              rw [hm]
              simp
            have HEE := Lib.hid he
            clear he hm hll
            go_wp2
            go_meet
            exact ⟨by rw [HEE.out], hb3⟩
          | false =>
            have hm2 := Lib.hid hm
            clear hm
            have he : S.isLed k = S.lasted.any (fun q => decide (q.2 = k)) := by
              unfold Sd.isLed
              rw [hm2.out, show (S.turns.any fun t => decide (t.kind = 1) && decide (t.file = k)) = false from hm1.out]
              rfl
            have HEE := Lib.hid he
            clear he
            go_wp2_with fail
            refine hll.mono ?_
            rintro e w4 ⟨rfl, hb4⟩
            clear hll
            go_wp2
            go_meet
            exact ⟨by rw [HEE.out], later_ hb3 hb4⟩
      case rest =>
        obtain ⟨rfl, hb3⟩ := hcut
        have hb03 := later_ hb02 hb3
        have hp3 := (hb3.cell (p := ⟨wr.heap.size, 0, none⟩) hpl2).trans hp2
        have hown3 := own_below hown2 hb3
        clear hown2 hp2
        cases hq : S.isLed k with
        | true =>
          have hst := HST.out
          rw [hq, if_pos rfl] at hst
          have HS2 := Lib.hid hst
          have hkr := Row.new wc #[.int .i64 (k : Int)] 3 (n := 1) (size := 1) rfl
          clear hst hq
          go_wp2_with (at_builtin; refine stop_in ?_)
          refine stop_out (wpList_appF rfl (.tmp 39) (.tmp 41) _ rfl w.heap.size 3 ii _ 1 8 Tryz.underlying37 hi0 hi1 hi2 hi3 rfl (by omega) w (hb03.alloc hb03.size _) (Nat.le_trans hb03.size (by simp)) (.slice oA L.length oc) L.length (ncells L) rfl (own_below hown3 ((Below.refl _ _).alloc (Nat.le_refl _) _)) (wc.heap.size + 1) _ 1 1 (by omega) [.int .i64 (k : Int)] rfl hkr (by intro u hu; simp at hu; subst hu; rfl) (L.length + 1) (ncells (L ++ [k])) rfl (by simp [ncells]) (by unfold maxLen; omega) (by omega) ?_)
          intro A3 c3 w5 hown5 hbb5 hg5 hc5 hm5 hv5
          have hkk : (L ++ [k]).length = L.length + 1 := by simp
          go_wp2
          go_roundw
          case rel => exact ⟨k + 1, A3, c3, by omega, by go_num, by rw [show (List.range (k + 1)).filter S.isLed = _ from HS2.out, hkk], by rw [show (List.range (k + 1)).filter S.isLed = _ from HS2.out, hkk]; exact hc5, hm5, by rw [show (List.range (k + 1)).filter S.isLed = _ from HS2.out, hkk]; exact hown5, hbb5⟩
          case measure => simp [intOf]; omega
        | false =>
          have hst := HST.out
          rw [hq, if_neg (by decide), List.append_nil] at hst
          have HS2 := Lib.hid hst
          clear hst hq
          go_wp2
          go_roundw
          case rel => exact ⟨k + 1, oA, oc, by omega, by go_num, by rw [show (List.range (k + 1)).filter S.isLed = _ from HS2.out], by rw [show (List.range (k + 1)).filter S.isLed = _ from HS2.out]; exact hoc, hom, by rw [show (List.range (k + 1)).filter S.isLed = _ from HS2.out]; exact hown3, hb03⟩
          case measure => simp [intOf]; omega
    · obtain rfl : k = S.files.length := by omega
      go_wp2
      go_ret
      exact ⟨oA, oc, rfl, hoc, hom, hown, hb⟩
end Go.Proofs.YthepokgkfaocmaaGreatDoor

/-
  The walk of the closure that Crash asks what is kept.
-/
namespace Go.Proofs.YthepokgkfaocmaaGreatDoor
open Go Go.RowKit Go.Maps
/-- The rest of a row of ints, in a box of its own. -/
structure Kp (Z : List Nat) (B : Nat) (w : World) (g : Nat) (ks : List Int) (A : Option Addr) (n c : Nat) : Prop where
  box : BoxO w 37 g [.slice A n c]
  row : Row B w A n 1 (icells ks)
  nc : n ≤ c
  cm : c ≤ maxLen
  off : ∀ j, j < (icells ks).length → ∀ a, A = some a → a.block ∉ Z
theorem Kp.chg {Z : List Nat} {B g n c : Nat} {w w' : World} {ks : List Int} {A : Option Addr} {F : List Nat} (h : Kp Z B w g ks A n c) (k : Chg F w w') (hB : B ≤ w.heap.size) (hg : g ∉ F) (hF : ∀ b ∈ F, B ≤ b ∨ b ∈ Z) : Kp Z B w' g ks A n c :=
  ⟨h.box.chg k hg, row_chg k h.row hB (fun j hj a ha hm => by
    have h1 := row_lt h.row hj ha
    rcases hF _ hm with h2 | h2
    · omega
    · exact h.off j hj a ha h2), h.nc, h.cm, h.off⟩
theorem Kp.below {Z : List Nat} {B g n c : Nat} {w w' : World} {ks : List Int} {A : Option Addr} (h : Kp Z B w g ks A n c) (k : Below w.heap.size w w') (hB : B ≤ w.heap.size) : Kp Z B w' g ks A n c := h.chg (Chg.of_below k []) hB (by simp) (by simp)
set_option maxRecDepth 100000 in
theorem next_any (Z : List Nat) (B g : Nat) (ks : List Int) (nn : Int) (w : World) (A : Option Addr) (n c : Nat) (h : Kp Z B w g ks A n c) (hB : B ≤ g) :
    Calls Tryz.prog 58 #[.int .i64 nn, .pointer (some ⟨g, 0, none⟩)] w fun e w' => e = .returned (.int .i64 (Sd.next ks nn).1) ∧ Chg [g] w w' ∧ ∃ A' n' c', Kp Z B w' g (Sd.next ks nn).2 A' n' c' := by
  have hl : ks.length = n := h.row.ilen
  have c0 := h.box.cell 0
  have f0 := h.box.free 0
  simp only [List.getElem?_cons_zero] at c0
  have hcm := h.cm
  have hnc := h.nc
  unfold maxLen at hcm
  cases ks with
  | nil =>
    have hn0 : n = 0 := by simpa using hl.symm
    subst hn0
    have H := Lib.hid h
    clear hl h f0
    go_enter Tryz.func58, Tryz.ntmps58
    go_wp2
    go_ret
    exact ⟨rfl, Chg.refl _ _, A, 0, c, H.out⟩
  | cons x r =>
    simp only [List.length_cons] at hl
    have hn0 : 0 < n := by omega
    obtain ⟨a, v, rfl, hab, hv, hcell⟩ := h.row.at1 hn0
    have hvx : v = .int .i64 x := by simpa [icells] using hv.symm
    subst hvx
    have hne : a.block ≠ g := by omega
    have hcell' : w.cell? a = some (.int .i64 x) := by simpa [Addr.add] using hcell
    have hrow := fun A' (hA : 1 < n → A' = (some a).map (·.add (1 * 1))) => h.row.cut (k := 1) (m := n) (by omega) (Nat.le_refl n) (A' := A') hA
    have hrl : icells r = ((icells (x :: r)).drop (1 * 1)).take ((n - 1) * 1) := by
      rw [List.take_of_length_le (by simp [icells]; omega)]
      simp [icells]
    rw [← hrl] at hrow
    have hoff := h.off
    have hst := fun A' => h.box.store 0 (.slice A' (n - 1) (c - 1))
    simp only [List.set_cons_zero] at hst
    have hfin : ∀ A' : Option Addr, (1 < n → A' = (some a).map (·.add (1 * 1))) → Kp Z B (w.setCell ⟨g, 0, none⟩ (.slice A' (n - 1) (c - 1))) g r A' (n - 1) (c - 1) := fun A' hA => ⟨hst A', (hrow A' hA).setCell hB _, by omega, by unfold maxLen; omega, fun j hj a' ha => by
      have h1 : 1 < n := by simp [icells] at hj; omega
      rw [hA h1] at ha
      injection ha with ha
      subst ha
      rw [add_block]
      exact hoff 0 (by simp [icells]) a rfl⟩
    have HF := Lib.hid hfin
    have hcg : ∀ v, Chg [g] w (w.setCell ⟨g, 0, none⟩ v) := fun v => chg_set w ⟨g, 0, none⟩ v
    have HCG := Lib.hid hcg
    have hn1 : ((n : Int) == 0) = false := by rw [beq_eq_false_iff_ne]; omega
    obtain ⟨n1, hn2⟩ : ∃ n1 : Nat, n1 = n - 1 := ⟨_, rfl⟩
    clear hrow hrl hst hfin hcg hl hv hcell h hoff
    by_cases hc1 : c = 1
    · subst hc1
      have hn11 : n = 1 := by omega
      subst hn11
      go_enter Tryz.func58, Tryz.ntmps58
      go_wp2
      go_ret
      exact ⟨rfl, HCG.out _, _, _, _, HF.out _ (fun h => absurd h (by decide))⟩
    · have hc2 : 1 < c := by omega
      have hc3 : (1 : Int) < (c : Int) := by omega
      have hn3 : (1 : Int) ≤ (n : Int) := by omega
      clear hc1
      go_enter Tryz.func58, Tryz.ntmps58
      go_wp2
      go_ret
      exact ⟨rfl, HCG.out _, _, _, _, HF.out _ (fun _ => rfl)⟩
end Go.Proofs.YthepokgkfaocmaaGreatDoor
