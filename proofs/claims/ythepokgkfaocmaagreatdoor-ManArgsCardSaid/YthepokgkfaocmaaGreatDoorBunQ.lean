/- Texts PlainRest, PlainRestB, LawA in one. No conditions. -/
import Derived.Test.YthepokgkfaocmaaGreatDoorBunL
import Derived.Test.YthepokgkfaocmaaGreatDoorBunP

/-
  A calm disk by its names' texts; a manifest's disk at rest: one man file, and current that leads to it.
-/
namespace Go.Proofs.YthepokgkfaocmaaGreatDoor
open Go

/-- What a name's file holds. -/
def cont (d : Sd) (s : List UInt8) : Option (List UInt8) := (d.names.get s).map fun i => (d.files.getD i ([], 0)).1
def upd (f : List UInt8 → Option (List UInt8)) (s : List UInt8) (v : Option (List UInt8)) : List UInt8 → Option (List UInt8) := fun t => if t = s then v else f t
/-- No death, no failure is set; no two names lead to one file. -/
structure Calm (d : Sd) : Prop where
  wf : d.Wf
  dead : d.dead = false
  stop : d.stop = 0
  fail : d.fail = 0
  inj : ∀ p ∈ d.names, ∀ q ∈ d.names, p.2 = q.2 → p.1 = q.1
/-- Names and lengths are bounded. -/
structure Small (d : Sd) (K : List (List UInt8)) (B : Nat) : Prop where
  names : ∀ s x, cont d s = some x → s ∈ K
  len : ∀ s x, cont d s = some x → x.length ≤ B

namespace Calm
variable {d : Sd} {s : List UInt8}
theorem new (q : Int) (hq : q ≤ 1099511627776) : Calm (Sd.new q) := ⟨Sd.new_wf q hq, rfl, rfl, rfl, fun p hp => by cases hp⟩
theorem cont_new (q : Int) : cont (Sd.new q) = fun _ => none := rfl
theorem call (h : Calm d) {l : List (List UInt8)} (hl : l.all Sd.named = true) : d.call l = ({ d with calls := RowKit.wrap64 (d.calls + 1) }, 0) := by
  unfold Sd.call
  rw [if_neg (by simp [hl])]
  simp only [h.dead, h.stop, h.fail]
  rfl
theorem get_of {x : List UInt8} (hc : cont d s = some x) : ∃ i, d.names.get s = some i ∧ (d.files.getD i ([], 0)).1 = x := by
  unfold cont at hc
  cases hg : d.names.get s with
  | none => rw [hg] at hc; cases hc
  | some i => rw [hg] at hc; injection hc with hc; exact ⟨i, rfl, hc⟩
theorem get_none (hc : cont d s = none) : d.names.get s = none := by
  unfold cont at hc
  cases hg : d.names.get s with
  | none => rfl
  | some i => rw [hg] at hc; cases hc
theorem recall (h : Calm d) (n : Int) : Calm { d with calls := n } := by
  obtain ⟨⟨a1, a2, a3, a4, a5, a6, a7, a8, b1, b2, b3, a9, a10⟩, c1, c2, c3, c4⟩ := h
  exact ⟨⟨a1, a2, a3, a4, a5, a6, a7, a8, b1, b2, b3, a9, a10⟩, c1, c2, c3, c4⟩
theorem read (h : Calm d) (hs : Sd.named s = true) {x : List UInt8} (hc : cont d s = some x) : d.read s = (x, 0) := by
  obtain ⟨i, hg, hx⟩ := get_of hc
  unfold Sd.read
  rw [if_neg (by simp [hs]), if_neg (by simp [h.dead]), hg]
  simp only
  rw [hx]
theorem read_none (h : Calm d) (hs : Sd.named s = true) (hc : cont d s = none) : (d.read s).2 = 11 := by
  unfold Sd.read
  rw [if_neg (by simp [hs]), if_neg (by simp [h.dead]), get_none hc]
theorem create (h : Calm d) (hs : Sd.named s = true) (hc : cont d s = none) (hn : d.names.length < 64) : (d.create s).2 = 0 ∧ Calm (d.create s).1 ∧ cont (d.create s).1 = upd (cont d) s (some []) ∧ (d.create s).1.quota = d.quota := by
  have hw := h.wf.create s
  have hg := get_none hc
  have e : d.create s = ({ d with calls := RowKit.wrap64 (d.calls + 1), names := d.names.put s d.files.length, turns := d.turns ++ [⟨1, d.files.length, s, []⟩], files := d.files ++ [([], 0)] }, 0) := by
    unfold Sd.create
    rw [h.call (by simpa using hs)]
    simp only [ne_eq, not_true_eq_false, if_false, hg, Option.isSome_none, Bool.false_eq_true]
    rw [if_neg (by omega)]
  rw [e] at hw ⊢
  refine ⟨rfl, ⟨hw, h.dead, h.stop, h.fail, fun p hp q hq he => ?_⟩, ?_, rfl⟩
  · rcases Nm.mem_put.1 hp with rfl | ⟨hp, _⟩ <;> rcases Nm.mem_put.1 hq with rfl | ⟨hq, _⟩
    · rfl
    · have := h.wf.names q hq
      simp only at he
      omega
    · have := h.wf.names p hp
      simp only at he
      omega
    · exact h.inj p hp q hq he
  · funext t
    unfold cont upd
    dsimp only
    by_cases ht : t = s
    · subst ht
      rw [if_pos rfl, Nm.get_put_same h.wf.apart]
      simp
    · rw [if_neg ht, Nm.get_put_other h.wf.apart ht]
      cases hgt : d.names.get t with
      | none => rfl
      | some i =>
        have hi := h.wf.names _ (Nm.get_mem hgt)
        simp only at hi
        simp [List.getD_eq_getElem?_getD, List.getElem?_append_left hi]
theorem cont_set (h : Calm d) {i : Nat} (hg : d.names.get s = some i) (f : List UInt8 × Nat) : cont { d with files := d.files.set i f } = upd (cont d) s (some f.1) := by
  funext t
  have hi : i < d.files.length := h.wf.names _ (Nm.get_mem hg)
  unfold cont upd
  dsimp only
  by_cases ht : t = s
  · subst ht
    rw [if_pos rfl, hg]
    simp [List.getD_eq_getElem?_getD, hi]
  · rw [if_neg ht]
    cases hgt : d.names.get t with
    | none => rfl
    | some j =>
      have hij : i ≠ j := fun e => ht ((h.inj _ (Nm.get_mem hgt) _ (Nm.get_mem hg) (by simp [e])))
      simp [List.getD_eq_getElem?_getD, List.getElem?_set, hij]
theorem append (h : Calm d) (hs : Sd.named s = true) {x : List UInt8} (hc : cont d s = some x) (b : List UInt8) (h1 : x.length + b.length ≤ 250000) (h2 : d.used + b.length ≤ d.quota) : (d.append s b).2 = 0 ∧ Calm (d.append s b).1 ∧ cont (d.append s b).1 = upd (cont d) s (some (x ++ b)) ∧ (d.append s b).1.quota = d.quota := by
  have hw := h.wf.append s b
  obtain ⟨i, hg, hx⟩ := get_of hc
  have e : d.append s b = ({ d with calls := RowKit.wrap64 (d.calls + 1), files := d.files.set i (x ++ b, (d.files.getD i ([], 0)).2) }, 0) := by
    unfold Sd.append
    rw [h.call (by simpa using hs)]
    simp only [ne_eq, not_true_eq_false, if_false, hg]
    unfold Sd.size
    rw [hx, if_neg (by omega), if_neg (by omega)]
  rw [e] at hw ⊢
  refine ⟨rfl, ⟨hw, h.dead, h.stop, h.fail, h.inj⟩, ?_, rfl⟩
  exact (h.recall (RowKit.wrap64 (d.calls + 1))).cont_set hg _
theorem sync (h : Calm d) (hs : Sd.named s = true) {x : List UInt8} (hc : cont d s = some x) : (d.sync s).2 = 0 ∧ Calm (d.sync s).1 ∧ cont (d.sync s).1 = cont d ∧ (d.sync s).1.quota = d.quota := by
  have hw := h.wf.sync s
  obtain ⟨i, hg, hx⟩ := get_of hc
  have e : d.sync s = ({ d with calls := RowKit.wrap64 (d.calls + 1), files := d.files.set i (x, d.size i) }, 0) := by
    unfold Sd.sync
    rw [h.call (by simpa using hs)]
    simp only [ne_eq, not_true_eq_false, if_false, hg]
    rw [hx]
  rw [e] at hw ⊢
  refine ⟨rfl, ⟨hw, h.dead, h.stop, h.fail, h.inj⟩, ?_, rfl⟩
  have h2 := (h.recall (RowKit.wrap64 (d.calls + 1))).cont_set hg (x, d.size i)
  refine h2.trans ?_
  funext t
  unfold upd
  split
  · subst_vars; exact hc.symm
  · rfl
theorem length_names (h : Calm d) {K : List (List UInt8)} {B : Nat} (hk : Small d K B) : d.names.length ≤ K.length ∧ d.used ≤ K.length * B := by
  have key : ∀ (m : Nm) (K : List (List UInt8)), Nm.Apart m → (∀ p ∈ m, p.1 ∈ K ∧ d.size p.2 ≤ B) → m.length ≤ K.length ∧ (m.map fun p => d.size p.2).sum ≤ K.length * B := by
    intro m
    induction m with
    | nil => intro K _ _; simp
    | cons p r ih =>
      intro K ha hm
      obtain ⟨h1, h2⟩ := List.pairwise_cons.1 ha
      obtain ⟨hp, hs⟩ := hm p (by simp)
      have hl := List.length_erase_of_mem hp
      have hpos : 0 < K.length := List.length_pos_of_mem hp
      obtain ⟨i1, i2⟩ := ih (K.erase p.1) h2 (fun q hq => ⟨by
        have := (hm q (by simp [hq])).1
        exact (List.mem_erase_of_ne (fun e => h1 q hq e.symm)).2 this, (hm q (by simp [hq])).2⟩)
      rw [hl] at i1 i2
      refine ⟨by simp; omega, ?_⟩
      simp only [List.map_cons, List.sum_cons]
      have e : K.length * B = (K.length - 1) * B + B := by
        conv => lhs; rw [show K.length = (K.length - 1) + 1 by omega, Nat.add_mul, Nat.one_mul]
      omega
  refine key d.names K h.wf.apart (fun p hp => ?_)
  have hg := Nm.mem_get h.wf.apart (s := p.1) (i := p.2) (by simpa using hp)
  have hc : cont d p.1 = some (d.files.getD p.2 ([], 0)).1 := by unfold cont; rw [hg]; rfl
  exact ⟨hk.names _ _ hc, hk.len _ _ hc⟩
theorem write (h : Calm d) (hs : Sd.named s = true) (hc : cont d s = none) {K : List (List UInt8)} {B : Nat} (hk : Small d K B) (hK : K.length < 64) (b : List UInt8) (h1 : b.length ≤ 250000) (h2 : (K.length + 1) * B + b.length ≤ d.quota) :
    (d.write s b).2 = 0 ∧ Calm (d.write s b).1 ∧ cont (d.write s b).1 = upd (cont d) s (some b) ∧ (d.write s b).1.quota = d.quota := by
  obtain ⟨l1, l2⟩ := h.length_names hk
  obtain ⟨c1, c2, c3, c4⟩ := h.create hs hc (by omega)
  have hk2 : Small (d.create s).1 (s :: K) B := ⟨fun t x ht => by
    rw [c3] at ht
    unfold upd at ht
    split at ht
    · subst_vars; simp
    · exact List.mem_cons_of_mem _ (hk.names t x ht), fun t x ht => by
    rw [c3] at ht
    unfold upd at ht
    split at ht
    · injection ht with ht; subst ht; simp
    · exact hk.len t x ht⟩
  obtain ⟨_, l4⟩ := c2.length_names hk2
  have hcs : cont (d.create s).1 s = some [] := by rw [c3, upd, if_pos rfl]
  simp only [List.length_cons] at l4
  obtain ⟨a1, a2, a3, a4⟩ := c2.append hs hcs b (by simp; exact h1) (by rw [c4]; omega)
  have hcb : cont ((d.create s).1.append s b).1 s = some b := by rw [a3, upd, if_pos rfl]; rfl
  obtain ⟨b1, b2, b3, b4⟩ := a2.sync hs hcb
  unfold Sd.write
  rw [if_neg (by simp [c1]), if_neg (by simp [a1])]
  refine ⟨b1, b2, ?_, b4.trans (a4.trans c4)⟩
  rw [b3, a3, c3]
  funext t
  unfold upd
  split <;> rfl
theorem remove (h : Calm d) (hs : Sd.named s = true) {x : List UInt8} (hc : cont d s = some x) : (d.remove s).2 = 0 ∧ Calm (d.remove s).1 ∧ cont (d.remove s).1 = upd (cont d) s none ∧ (d.remove s).1.quota = d.quota := by
  have hw := h.wf.remove s
  obtain ⟨i, hg, hx⟩ := get_of hc
  have e : d.remove s = ({ d with calls := RowKit.wrap64 (d.calls + 1), names := d.names.del s, turns := d.turns ++ [⟨3, 0, s, []⟩] }, 0) := by
    unfold Sd.remove
    rw [h.call (by simpa using hs)]
    simp only [ne_eq, not_true_eq_false, if_false, hg, Option.isNone_some, Bool.false_eq_true]
    rfl
  rw [e] at hw ⊢
  refine ⟨rfl, ⟨hw, h.dead, h.stop, h.fail, fun p hp q hq he => h.inj p (Nm.mem_del.1 hp).1 q (Nm.mem_del.1 hq).1 he⟩, ?_, rfl⟩
  funext t
  unfold cont upd
  dsimp only
  by_cases ht : t = s
  · subst ht
    rw [if_pos rfl, Nm.get_del_same]
    rfl
  · rw [if_neg ht, Nm.get_del_other h.wf.apart ht]
theorem rename (h : Calm d) {a b : List UInt8} (ha : Sd.named a = true) (hb : Sd.named b = true) (hne : a ≠ b) {x : List UInt8} (hc : cont d a = some x) : (d.rename a b).2 = 0 ∧ Calm (d.rename a b).1 ∧ cont (d.rename a b).1 = upd (upd (cont d) b (some x)) a none ∧ (d.rename a b).1.quota = d.quota := by
  have hw := h.wf.rename a b
  obtain ⟨i, hg, hx⟩ := get_of hc
  have hgo : Tn.go ⟨2, 0, a, b⟩ d.names = (d.names.put b i).del a := by unfold Tn.go; simp [hg]
  have e : d.rename a b = ({ d with calls := RowKit.wrap64 (d.calls + 1), names := (d.names.put b i).del a, turns := d.turns ++ [⟨2, 0, a, b⟩] }, 0) := by
    unfold Sd.rename
    rw [h.call (by simp [ha, hb])]
    simp only [ne_eq, not_true_eq_false, if_false, hg, Option.isNone_some, Bool.false_eq_true, hne]
    rw [hgo]
  rw [e] at hw ⊢
  have hap := Nm.apart_put h.wf.apart b i
  refine ⟨rfl, ⟨hw, h.dead, h.stop, h.fail, fun p hp q hq he => ?_⟩, ?_, rfl⟩
  · obtain ⟨hp, hpa⟩ := Nm.mem_del.1 hp
    obtain ⟨hq, hqa⟩ := Nm.mem_del.1 hq
    have ham := Nm.get_mem hg
    rcases Nm.mem_put.1 hp with rfl | ⟨hp, _⟩ <;> rcases Nm.mem_put.1 hq with rfl | ⟨hq, _⟩
    · rfl
    · exact absurd (h.inj _ ham q hq (by simpa using he)).symm hqa
    · exact absurd (h.inj p hp _ ham (by simpa using he)) hpa
    · exact h.inj p hp q hq he
  · funext t
    unfold cont upd
    dsimp only
    by_cases ht : t = a
    · subst ht
      rw [if_pos rfl, Nm.get_del_same]
      rfl
    · rw [if_neg ht, Nm.get_del_other hap ht]
      by_cases ht2 : t = b
      · subst ht2
        rw [if_pos rfl, Nm.get_put_same h.wf.apart]
        simp only [Option.map_some]
        rw [hx]
      · rw [if_neg ht2, Nm.get_put_other h.wf.apart ht2]
theorem syncDir (h : Calm d) : (d.syncDir).2 = 0 ∧ Calm (d.syncDir).1 ∧ cont (d.syncDir).1 = cont d ∧ (d.syncDir).1.quota = d.quota := by
  have hw := h.wf.syncDir
  have e : d.syncDir = ({ d with calls := RowKit.wrap64 (d.calls + 1), lasted := d.names, turns := [] }, 0) := by
    unfold Sd.syncDir
    rw [h.call rfl]
    rfl
  rw [e] at hw ⊢
  exact ⟨rfl, ⟨hw, h.dead, h.stop, h.fail, h.inj⟩, rfl, rfl⟩
theorem mem_list (h : Calm d) : s ∈ d.list ↔ ∃ x, cont d s = some x := by
  unfold Sd.list
  rw [if_neg (by simp [h.dead]), List.mem_mergeSort]
  constructor
  · intro hm
    obtain ⟨p, hp, rfl⟩ := List.mem_map.1 hm
    have hg := Nm.mem_get h.wf.apart (s := p.1) (i := p.2) (by simpa using hp)
    exact ⟨_, by unfold cont; rw [hg]; rfl⟩
  · rintro ⟨x, hx⟩
    obtain ⟨i, hg, _⟩ := get_of hx
    exact List.mem_map.2 ⟨(s, i), Nm.get_mem hg, rfl⟩
end Calm
end Go.Proofs.YthepokgkfaocmaaGreatDoor

/-
  A manifest's disk at rest: what a rewrite, a Save, an Open make of it.
-/
namespace Go.Proofs.YthepokgkfaocmaaGreatDoor
open Go

namespace Mw
open Mn
def man (n : Nat) : List UInt8 := name kMan n
/-- One man file of the text t, and current, that leads to it. -/
def rest (n : Nat) (t : List UInt8) : List UInt8 → Option (List UInt8) := fun s => if s = man n then some t else if s = kCur then some (headB n) else none
theorem fits_kMan {n : Nat} (h1 : 1 ≤ n) (h2 : n ≤ 1073741824) : (fits n && isKind kMan) = true := by
  have : isKind kMan = true := by decide
  rw [this]
  simp [fits]
  omega
theorem man_digits {n : Nat} (h1 : 1 ≤ n) (h2 : n ≤ 1073741824) : man n = [109, 97, 110, 46] ++ Lib.decDigits n := by
  rw [man, name_digits (fits_kMan h1 h2)]
  rfl
theorem man_named {n : Nat} (h1 : 1 ≤ n) (h2 : n ≤ 1073741824) : Sd.named (man n) = true := name_named (fits_kMan h1 h2)
theorem man_cur {n : Nat} (h1 : 1 ≤ n) (h2 : n ≤ 1073741824) : man n ≠ kCur := by
  rw [man_digits h1 h2]
  simp [kCur]
theorem man_temp {n : Nat} (h1 : 1 ≤ n) (h2 : n ≤ 1073741824) : man n ≠ kTemp := by
  rw [man_digits h1 h2]
  simp [kTemp]
theorem cur_temp : kCur ≠ kTemp := by decide
theorem man_inj {n k : Nat} (h1 : 1 ≤ n) (h2 : n ≤ 1073741824) (e : man k = man n) : k = n := by
  have := name_inj (fits_kMan h1 h2) e
  omega
theorem number_man {n : Nat} (h1 : 1 ≤ n) (h2 : n ≤ 1073741824) : number (man n) kMan = some (n : Int) := number_name (fits_kMan h1 h2)
theorem number_cur : number kCur kMan = none := by
  unfold number
  rw [if_neg (by decide)]
theorem number_temp : number kTemp kMan = none := by
  unfold number
  rw [if_neg (by decide)]

theorem sweep_none (nm : List UInt8) : ∀ (l : List (List UInt8)) (d : Sd), (∀ s ∈ l, (number s kMan).isSome = true → s = nm) → sweep nm l d = d
  | [], d, _ => rfl
  | o :: r, d, h => by
    rw [sweep]
    have : ((number o kMan).isSome && !(o == nm)) = false := by
      cases ho : (number o kMan).isSome with
      | false => rfl
      | true =>
        have := h o (by simp) ho
        simp [this]
    rw [this]
    exact sweep_none nm r d (fun s hs => h s (by simp [hs]))
/-- One man file too many is removed. -/
theorem sweep_one {nm : List UInt8} {old : List UInt8} (hold : Sd.named old = true) (hne : old ≠ nm) (hnum : (number old kMan).isSome = true) : ∀ (l : List (List UInt8)) (d : Sd), Calm d → (∃ x, cont d old = some x) → old ∈ l → (∀ s ∈ l, (number s kMan).isSome = true → s = nm ∨ s = old) → l.Nodup →
    Calm (sweep nm l d) ∧ cont (sweep nm l d) = upd (cont d) old none ∧ (sweep nm l d).quota = d.quota
  | [], _, _, _, h, _, _ => by cases h
  | o :: r, d, hc, hx, hm, hl, hnd => by
    obtain ⟨n1, n2⟩ := List.nodup_cons.1 hnd
    rw [sweep]
    rcases List.mem_cons.1 hm with rfl | hm
    · obtain ⟨x, hx⟩ := hx
      obtain ⟨r1, r2, r3, r4⟩ := hc.remove hold hx
      have : ((number old kMan).isSome && !(old == nm)) = true := by simp [hnum, hne]
      rw [this, if_pos rfl, sweep_none nm r _ (fun s hs h => by
        rcases hl s (by simp [hs]) h with h1 | h1
        · exact h1
        · exact absurd (h1 ▸ hs) n1)]
      exact ⟨r2, r3, r4⟩
    · have : ((number o kMan).isSome && !(o == nm)) = false := by
        cases ho : (number o kMan).isSome with
        | false => rfl
        | true =>
          rcases hl o (by simp) ho with h1 | h1
          · simp [h1]
          · exact absurd (h1 ▸ hm) n1
      rw [this]
      exact sweep_one hold hne hnum r d hc hx hm (fun s hs => hl s (by simp [hs])) n2
theorem list_nodup {d : Sd} (h : Calm d) : d.list.Nodup := by
  unfold Sd.list
  rw [if_neg (by simp [h.dead])]
  have h1 : (d.names.map (·.1)).Nodup := by
    have := h.wf.apart
    unfold Nm.Apart at this
    exact List.Pairwise.map _ (fun a b hab => hab) this
  exact (List.mergeSort_perm _ _).nodup_iff.2 h1
theorem cur_named : Sd.named kCur = true := by decide
theorem temp_named : Sd.named kTemp = true := by decide
/-- A rewrite goes through, as far as to its sweep. -/
theorem rewrite_core {d : Sd} {M : Ms} {n k B : Nat} (h : Calm d) (hk1 : 1 ≤ k) (hk2 : k ≤ 1073741824) (hS : ∀ s x, cont d s = some x → (s = man n ∨ s = kCur) ∧ x.length ≤ B) (hn1 : 1 ≤ n) (hn2 : n ≤ 1073741824) (hnone : cont d (man k) = none)
    (hB : 200 ≤ B) (hq : 5 * B ≤ d.quota) :
    ∃ d6, Calm d6 ∧ cont d6 = upd (upd (upd (upd (cont d) (man k) (some (recB M.v))) kTemp (some (headB k))) kCur (some (headB k))) kTemp none ∧ d6.quota = d.quota ∧ rewrite d M (man k) = (sweep (man k) d6.list d6, { M with name := man k, count := 1 }, 0) := by
  have hr := recB_len M.v
  have hh := headB_len k
  have hnum : (number (man k) kMan).getD 0 = (k : Int) := by rw [number_man hk1 hk2]; rfl
  have hs0 : Small d [man n, kCur] B := ⟨fun s x hx => by
    rcases (hS s x hx).1 with rfl | rfl <;> simp, fun s x hx => (hS s x hx).2⟩
  have ht0 : cont d kTemp = none := by
    cases he : cont d kTemp with
    | none => rfl
    | some x =>
      rcases (hS _ x he).1 with h1 | h1
      · exact absurd h1.symm (man_temp hn1 hn2)
      · exact absurd h1.symm cur_temp
  obtain ⟨a1, a2, a3, a4⟩ := h.write (man_named hk1 hk2) hnone hs0 (by simp) (recB M.v) (by omega) (by simp; omega)
  have htk : kTemp ≠ man k := (man_temp hk1 hk2).symm
  have ht1 : cont (d.write (man k) (recB M.v)).1 kTemp = none := by rw [a3, upd, if_neg htk]; exact ht0
  have hrd := a2.read_none temp_named ht1
  have hs1 : Small (d.write (man k) (recB M.v)).1 [man k, man n, kCur] B := ⟨fun s x hx => by
    rw [a3, upd] at hx
    split at hx
    · subst_vars; simp
    · rcases (hS s x hx).1 with rfl | rfl <;> simp, fun s x hx => by
    rw [a3, upd] at hx
    split at hx
    · injection hx with hx; subst hx; omega
    · exact (hS s x hx).2⟩
  obtain ⟨b1, b2, b3, b4⟩ := a2.write temp_named ht1 hs1 (by simp) (headB k) (by omega) (by simp; omega)
  obtain ⟨e1, e2, e3, e4⟩ := b2.syncDir
  have htm : cont ((d.write (man k) (recB M.v)).1.write kTemp (headB k)).1.syncDir.1 kTemp = some (headB k) := by rw [e3, b3, upd, if_pos rfl]
  obtain ⟨f1, f2, f3, f4⟩ := e2.rename temp_named cur_named cur_temp.symm htm
  obtain ⟨g1, g2, g3, g4⟩ := f2.syncDir
  refine ⟨(((((d.write (man k) (recB M.v)).1.write kTemp (headB k)).1.syncDir).1.rename kTemp kCur).1.syncDir).1, g2, ?_, ?_, ?_⟩
  · rw [g3, f3, e3, b3, a3]
  · rw [g4, f4, e4, b4, a4]
  · unfold rewrite
    rw [if_neg (by simp [a1]), tmp, if_neg (by rw [hrd]; simp), hd, hnum, if_neg (by simp [b1]), sd1, if_neg (by simp [e1]), ren, if_neg (by simp [f1]), fin, if_neg (by simp [g1])]
/-- New: on a disk of no files. -/
theorem rewrite_new {d : Sd} {M : Ms} {k : Nat} (h : Calm d) (hk1 : 1 ≤ k) (hk2 : k ≤ 1073741824) (hc : cont d = fun _ => none) (hq : 1000 ≤ d.quota) :
    Calm (rewrite d M (man k)).1 ∧ cont (rewrite d M (man k)).1 = rest k (recB M.v) ∧ (rewrite d M (man k)).1.quota = d.quota ∧ (rewrite d M (man k)).2 = ({ M with name := man k, count := 1 }, 0) := by
  obtain ⟨d6, c1, c2, c3, c4⟩ := rewrite_core (n := k) (B := 200) (M := M) h hk1 hk2 (fun s x hx => by rw [hc] at hx; cases hx) hk1 hk2 (by rw [hc]) (Nat.le_refl _) (by omega)
  have hc6 : cont d6 = rest k (recB M.v) := by
    rw [c2, hc]
    funext s
    unfold upd rest
    by_cases h1 : s = kTemp
    · subst h1
      rw [if_pos rfl, if_neg (man_temp hk1 hk2).symm, if_neg cur_temp.symm]
    · rw [if_neg h1]
      by_cases h2 : s = kCur
      · subst h2
        rw [if_pos rfl, if_neg (man_cur hk1 hk2).symm, if_pos rfl]
      · rw [if_neg h2, if_neg h2, if_neg h1]
  have hsw : sweep (man k) d6.list d6 = d6 := sweep_none _ _ _ (fun s hs hn => by
    obtain ⟨x, hx⟩ := c1.mem_list.1 hs
    rw [hc6, rest] at hx
    split at hx
    · assumption
    · split at hx
      · rename_i h2
        rw [h2, number_cur] at hn
        cases hn
      · cases hx)
  rw [c4, hsw]
  exact ⟨c1, hc6, c3, rfl⟩
/-- A rewrite of a manifest at rest. -/
theorem rewrite_rest {d : Sd} {M : Ms} {n k B : Nat} {t : List UInt8} (h : Calm d) (hk1 : 1 ≤ k) (hk2 : k ≤ 1073741824) (hn1 : 1 ≤ n) (hn2 : n ≤ 1073741824) (hne : n ≠ k) (hc : cont d = rest n t) (ht : t.length ≤ B) (hB : 200 ≤ B) (hq : 5 * B ≤ d.quota) :
    Calm (rewrite d M (man k)).1 ∧ cont (rewrite d M (man k)).1 = rest k (recB M.v) ∧ (rewrite d M (man k)).1.quota = d.quota ∧ (rewrite d M (man k)).2 = ({ M with name := man k, count := 1 }, 0) := by
  have hkn : man k ≠ man n := fun e => hne (man_inj hn1 hn2 e).symm
  obtain ⟨d6, c1, c2, c3, c4⟩ := rewrite_core (n := n) (B := B) (M := M) h hk1 hk2 (fun s x hx => by
    rw [hc, rest] at hx
    split at hx
    · injection hx with hx; subst hx; exact ⟨.inl ‹_›, ht⟩
    · split at hx
      · injection hx with hx; subst hx; exact ⟨.inr ‹_›, by have := headB_len n; omega⟩
      · cases hx) hn1 hn2 (by rw [hc, rest, if_neg hkn, if_neg (man_cur hk1 hk2)]) hB hq
  have hc6 : ∀ s, cont d6 s = if s = man n then some t else rest k (recB M.v) s := fun s => by
    rw [c2, hc]
    unfold upd rest
    by_cases h1 : s = kTemp
    · subst h1
      rw [if_pos rfl, if_neg (man_temp hn1 hn2).symm, if_neg (man_temp hk1 hk2).symm, if_neg cur_temp.symm]
    · rw [if_neg h1]
      by_cases h2 : s = kCur
      · subst h2
        rw [if_pos rfl, if_neg (man_cur hn1 hn2).symm, if_neg (man_cur hk1 hk2).symm, if_pos rfl]
      · rw [if_neg h2, if_neg h2, if_neg h1]
        by_cases h3 : s = man k
        · subst h3
          rw [if_pos rfl, if_neg hkn, if_pos rfl]
        · rw [if_neg h3, if_neg h3, if_neg h2]
  have hold : ∃ x, cont d6 (man n) = some x := ⟨t, by rw [hc6, if_pos rfl]⟩
  obtain ⟨s1, s2, s3⟩ := sweep_one (nm := man k) (man_named hn1 hn2) hkn.symm (by rw [number_man hn1 hn2]; rfl) d6.list d6 c1 hold (c1.mem_list.2 hold) (fun s hs hn => by
    obtain ⟨x, hx⟩ := c1.mem_list.1 hs
    rw [hc6] at hx
    split at hx
    · exact .inr ‹_›
    · rw [rest] at hx
      split at hx
      · exact .inl ‹_›
      · split at hx
        · rename_i h2
          rw [h2, number_cur] at hn
          cases hn
        · cases hx) (list_nodup c1)
  rw [c4]
  refine ⟨s1, ?_, s3.trans c3, rfl⟩
  rw [s2]
  funext s
  rw [upd]
  by_cases h1 : s = man n
  · subst h1
    rw [if_pos rfl, rest, if_neg hkn.symm, if_neg (man_cur hn1 hn2)]
  · rw [if_neg h1, hc6, if_neg h1]
/-- A Save onto a manifest at rest. -/
theorem save_rest {d : Sd} {M : Ms} {n B : Nat} {t : List UInt8} {e : Bv} (h : Calm d) (hn1 : 1 ≤ n) (hn2 : n ≤ 1073741824) (hc : cont d = rest n t) (hm : M.name = man n) (hbr : M.broken = false) (ht : t.length ≤ B) (hB : 200 ≤ B) (hB2 : B ≤ 249000) (hq : 5 * B ≤ d.quota) :
    Calm (save d M e).1 ∧ cont (save d M e).1 = rest n (t ++ recB e) ∧ (save d M e).1.quota = d.quota ∧ (save d M e).2 = ({ M with count := M.count + 1, v := M.v.app e }, 0) ∧ (save d M e).1.load = d.load := by
  have hr := recB_len e
  have hct : cont d (man n) = some t := by rw [hc, rest, if_pos rfl]
  have hs : Small d [man n, kCur] B := ⟨fun s x hx => by
    rw [hc, rest] at hx
    split at hx
    · subst_vars; simp
    · split at hx
      · subst_vars; simp
      · exact absurd hx (by simp), fun s x hx => by
    rw [hc, rest] at hx
    split at hx
    · injection hx with hx; subst hx; exact ht
    · split at hx
      · injection hx with hx; subst hx; have := headB_len n; omega
      · cases hx⟩
  obtain ⟨_, l2⟩ := h.length_names hs
  simp only [List.length_cons, List.length_nil] at l2
  obtain ⟨a1, a2, a3, a4⟩ := h.append (man_named hn1 hn2) hct (recB e) (by omega) (by omega)
  have hct2 : cont (d.append (man n) (recB e)).1 (man n) = some (t ++ recB e) := by rw [a3, upd, if_pos rfl]
  obtain ⟨b1, b2, b3, b4⟩ := a2.sync (man_named hn1 hn2) hct2
  have hsv : save d M e = (((d.append (man n) (recB e)).1.sync (man n)).1, { M with count := M.count + 1, v := M.v.app e }, 0) := by
    unfold save
    rw [if_neg (by simp [hbr]), hm, if_neg (by simp [a1]), if_neg (by simp [b1])]
  rw [hsv]
  refine ⟨b2, ?_, b4.trans a4, rfl, by rw [Sd.sync_load, Sd.append_load]⟩
  rw [b3, a3, hc]
  funext s
  unfold upd rest
  split <;> rfl
end Mw
end Go.Proofs.YthepokgkfaocmaaGreatDoor

/-
  What the laws of manifests carry from call to call; the walk of awake.
-/
namespace Go.Proofs.YthepokgkfaocmaaGreatDoor
open Go Go.RowKit Go.Shelf

/-- A disk and its manifest, both made since W0. -/
structure At (W0 w : World) (X : Dw) (S : Sd) (m : Nat) (M : Ms) : Prop where
  dm : Dm w X S
  man : MK w m X.d M
  away : m ∉ X.foot
  low : ∀ g ∈ X.foot, W0.heap.size ≤ g
  lowm : W0.heap.size ≤ m
  bel : Below W0.heap.size W0 w
variable {W0 w w1 w2 : World} {X X1 : Dw} {S S1 : Sd} {m m1 : Nat} {M M1 : Ms}
theorem Chg.under {F : List Nat} {B : Nat} (h : Chg F w w1) (hB : B ≤ w.heap.size) (hF : ∀ g ∈ F, B ≤ g) : Below B w w1 := h.below hB hF
theorem At.mst (h : At W0 w X S m M) (hn : NG ≤ W0.heap.size) : Mst m X w S M w X := Mst.start h.dm h.man h.away (Nat.le_trans hn h.lowm)
theorem At.below (h : At W0 w X S m M) (hb : Below w.heap.size w w1) : At W0 w1 X S m M := ⟨h.dm.below hb, h.man.below hb, h.away, h.low, h.lowm, h.bel.trans (hb.mono h.bel.size)⟩
theorem At.mst_left (h : At W0 w X S m M) (k : Mst m X w S1 M1 w1 X1) : At W0 w1 X1 S1 m M1 :=
  ⟨k.acc.dm, by rw [k.acc.e]; exact k.man, k.away, fun g hg => by
    rcases k.acc.f g hg with h1 | h1
    · exact h.low g h1
    · exact Nat.le_trans h.bel.size h1, h.lowm, h.bel.trans (k.acc.c.under h.bel.size (fun g hg => by
    rcases List.mem_append.1 hg with h1 | h1
    · rw [List.mem_singleton.1 h1]; exact h.lowm
    · exact h.low g h1))⟩
theorem At.acc (h : At W0 w X S m M) (k : Acc [] X w S1 w1 X1) : At W0 w1 X1 S1 m M := by
  have hc : Chg X.foot w w1 := by simpa using k.c
  have ha : m ∉ X1.foot := fun hm => by
    rcases k.f m hm with h1 | h1
    · exact h.away h1
    · have := h.man.lt
      omega
  exact ⟨k.dm, by rw [k.e]; exact h.man.chg hc h.away, ha, fun g hg => by
    rcases k.f g hg with h1 | h1
    · exact h.low g h1
    · exact Nat.le_trans h.bel.size h1, h.lowm, h.bel.trans (hc.under h.bel.size h.low)⟩
/-- Another manifest of the disk is opened: both are there. -/
theorem At.born (h : At W0 w X S m M) (k : Born X w S1 M1 m1 w1 X1) : At W0 w1 X1 S1 m1 M1 ∧ MK w1 m X.d M :=
  ⟨⟨k.dm, by rw [k.e]; exact k.man, k.away, fun g hg => by
    rcases k.f g hg with h1 | h1
    · exact h.low g h1
    · exact Nat.le_trans h.bel.size h1, Nat.le_trans h.bel.size k.new, h.bel.trans (k.c.under h.bel.size h.low)⟩, h.man.chg k.c h.away⟩
theorem at_born (hl : ∀ g ∈ X.foot, W0.heap.size ≤ g) (hb : Below W0.heap.size W0 w) (k : Born X w S1 M1 m1 w1 X1) : At W0 w1 X1 S1 m1 M1 :=
  ⟨k.dm, by rw [k.e]; exact k.man, k.away, fun g hg => by
    rcases k.f g hg with h1 | h1
    · exact hl g h1
    · exact Nat.le_trans hb.size h1, Nat.le_trans hb.size k.new, hb.trans (k.c.under hb.size hl)⟩
theorem dm_new {q : Int} (hq : q ≤ 1099511627776) (he : Env w) (hd : DK w1 X (Sd.new q)) (hb : Below w.heap.size w w1) (hf : ∀ g ∈ X.foot, w.heap.size ≤ g) : Dm w1 X (Sd.new q) :=
  ⟨hd, Sd.new_wf q hq, he.below hb, fun g hg => Nat.le_trans he.base (hf g hg)⟩

/-- The text of changes, one behind the other. -/
def text (es : List Bv) : List UInt8 := Fr.all 6 (es.map Bv.bytes)
theorem text_snoc (es : List Bv) (e : Bv) : text (es ++ [e]) = text es ++ Mw.recB e := by simp [text, Fr.all, Mw.recB]
theorem text_one (e : Bv) : text [e] = Mw.recB e := by simp [text, Fr.all, Mw.recB]
theorem bytes_len (e : Bv) : e.bytes.length ≤ 60000 := by
  have h := recB_len e
  rw [Mw.recB, Fr.put_length] at h
  omega
theorem text_split (es : List Bv) : Fr.split (text es) = (List.replicate es.length 6, es.map Bv.bytes, (text es).length, 0) := by
  have h := Fr.split_all 6 (by omega) (by omega) (es.map Bv.bytes) (fun b hb => by
    obtain ⟨e, _, rfl⟩ := List.mem_map.1 hb
    exact bytes_len e)
  simpa [text] using h
theorem text_len (es : List Bv) : (text es).length ≤ es.length * 200 := by
  unfold text Fr.all
  have := flat_len (Fr.put 6) 200 (es.map Bv.bytes) (fun b hb => by
    obtain ⟨e, _, rfl⟩ := List.mem_map.1 hb
    exact recB_len e)
  simpa using this
/-- Changes that may follow one another, from nothing on. -/
structure Chain (es : List Bv) : Prop where
  pos : 0 < es.length
  may : ∀ e ∈ es, e.may = true
  ok : ∀ k, k < es.length → (Bv.run (es.take (k + 1))).ok = true
theorem Chain.one {e : Bv} (h : e.ok = true) (hz : Bv.app Bv.zero e = e) : Chain [e] := ⟨by simp, fun x hx => by
  rw [List.mem_singleton.1 hx]
  obtain ⟨_, h2, h3⟩ := Bv.ok_iff.1 h
  exact Bv.may_iff.2 ⟨h2, h3⟩, fun k hk => by
  have : k = 0 := by simp at hk; omega
  subst this
  simpa [Bv.run, hz] using h⟩
theorem Chain.snoc {es : List Bv} {e : Bv} (h : Chain es) (he : e.may = true) (hok : ((Bv.run es).app e).ok = true) : Chain (es ++ [e]) := ⟨by simp, fun x hx => by
  rcases List.mem_append.1 hx with h1 | h1
  · exact h.may x h1
  · rw [List.mem_singleton.1 h1]; exact he, fun k hk => by
  rcases Nat.lt_or_ge k es.length with h1 | h1
  · rw [List.take_append_of_le_length (by omega)]
    exact h.ok k h1
  · rw [List.take_of_length_le (by simp at hk ⊢; omega), Bv.run_snoc]
    exact hok⟩
theorem Chain.run_ok {es : List Bv} (h : Chain es) : (Bv.run es).ok = true := Go.Proofs.YthepokgkfaocmaaGreatDoor.run_ok h.pos h.ok
namespace Mw
open Mn
theorem sweep_load (nm : List UInt8) : ∀ (l : List (List UInt8)) (d : Sd), (sweep nm l d).load ≤ d.load + l.length
  | [], d => Nat.le_refl _
  | o :: r, d => by
    rw [sweep]
    have h := sweep_load nm r
    split
    · have h1 := h (d.remove o).1
      have h2 := Sd.remove_load d o
      simp only [List.length_cons]
      omega
    · have h1 := h d
      simp only [List.length_cons]
      omega
theorem fin_load {d : Sd} (hw : d.Wf) (M : Ms) (nm : List UInt8) : (fin d M nm).1.load ≤ d.load + 64 := by
  have h1 := Sd.syncDir_load d
  have h2 := list_len hw.syncDir
  have h3 := sweep_load nm (d.syncDir).1.list (d.syncDir).1
  unfold fin
  split
  · dsimp only; omega
  · dsimp only; omega
theorem ren_load {d : Sd} (hw : d.Wf) (M : Ms) (nm : List UInt8) : (ren d M nm).1.load ≤ d.load + 65 := by
  have h1 := Sd.rename_load d kTemp kCur
  have h2 := fin_load (hw.rename kTemp kCur) M nm
  unfold ren
  split
  · dsimp only; omega
  · omega
theorem sd1_load {d : Sd} (hw : d.Wf) (M : Ms) (nm : List UInt8) : (sd1 d M nm).1.load ≤ d.load + 65 := by
  have h1 := Sd.syncDir_load d
  have h2 := ren_load hw.syncDir M nm
  unfold sd1
  split
  · dsimp only; omega
  · omega
theorem hd_load {d : Sd} (hw : d.Wf) (M : Ms) (nm : List UInt8) : (hd d M nm).1.load ≤ d.load + 67 := by
  have h1 := Sd.write_load d kTemp (headB ((number nm kMan).getD 0))
  have h2 := sd1_load (hw.write kTemp (headB ((number nm kMan).getD 0))) M nm
  unfold hd
  split
  · dsimp only; omega
  · omega
theorem tmp_load {d : Sd} (hw : d.Wf) (M : Ms) (nm : List UInt8) : (tmp d M nm).1.load ≤ d.load + 68 := by
  have h1 := Sd.remove_load d kTemp
  have h2 := hd_load (hw.remove kTemp) M nm
  have h3 := hd_load hw M nm
  unfold tmp
  split
  · split
    · dsimp only; omega
    · omega
  · omega
theorem rewrite_load {d : Sd} (hw : d.Wf) (M : Ms) (nm : List UInt8) : (rewrite d M nm).1.load ≤ d.load + 70 := by
  have h1 := Sd.write_load d nm (recB M.v)
  have h2 := tmp_load (hw.write nm (recB M.v)) M nm
  unfold rewrite
  split
  · dsimp only; omega
  · omega
end Mw
end Go.Proofs.YthepokgkfaocmaaGreatDoor
