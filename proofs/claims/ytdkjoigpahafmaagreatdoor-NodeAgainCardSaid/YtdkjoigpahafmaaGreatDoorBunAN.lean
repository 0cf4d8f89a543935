/- Texts PlainRest, PlainRestB, PlainRestG, LawA, LawB, LawG, Edits, ManL, StoA in one. No conditions. -/
import Derived.Test.YtdkjoigpahafmaaGreatDoorBunAD
import Derived.Test.YtdkjoigpahafmaaGreatDoorBunAM
import Derived.Test.YtdkjoigpahafmaaGreatDoorBunAA
import Derived.StillTailTactics
import Derived.Deep.RegionHeld3
import Derived.Test.YtdkjoigpahafmaaGreatDoorBunAI
import Derived.Test.YtdkjoigpahafmaaGreatDoorBunAK
import Derived.Test.YtdkjoigpahafmaaGreatDoorBunAL

set_option linter.unusedSimpArgs false
set_option linter.unusedVariables false
set_option maxRecDepth 100000
set_option maxHeartbeats 16000000
namespace Go.Proofs.YtdkjoigpahafmaaGreatDoor
section
open Go
def cont (d : Sd) (s : List UInt8) : Option (List UInt8) := (d.names.get s).map fun i => (d.files.getD i ([], 0)).1
def upd (f : List UInt8 → Option (List UInt8)) (s : List UInt8) (v : Option (List UInt8)) : List UInt8 → Option (List UInt8) := fun t => if t = s then v else f t
structure Calm (d : Sd) : Prop where
 wf : d.Wf
 dead : d.dead = false
 stop : d.stop = 0
 fail : d.fail = 0
 inj : ∀ p ∈ d.names, ∀ q ∈ d.names, p.2 = q.2 → p.1 = q.1
structure Small (d : Sd) (K : List (List UInt8)) (B : Nat) : Prop where
 names : ∀ s x, cont d s = some x → s ∈ K
 len : ∀ s x, cont d s = some x → x.length ≤ B
namespace Calm
variable {d : Sd} {s : List UInt8}
theorem new (q : Int) (hq : q ≤ 1099511627776) : Calm (Sd.new q) := ⟨Sd.new_wf q hq, rfl, rfl, rfl, fun p hp => by cases hp⟩
theorem cont_new (q : Int) : cont (Sd.new q) = fun _ => none := rfl
theorem call (h : Calm d) {l : List (List UInt8)} (hl : l.all Sd.named = true) : d.call l = ({ d with calls := RowKit.wrap64 (d.calls + 1) }, 0) := by
 unfold Sd.call
 rw [if_neg (by simp [hl])]
 simp only [h.dead, h.stop, h.fail]
 rfl
theorem get_of {x : List UInt8} (hc : cont d s = some x) : ∃ i, d.names.get s = some i ∧ (d.files.getD i ([], 0)).1 = x := by
 unfold cont at hc
 cases hg : d.names.get s with
 | none => rw [hg] at hc; cases hc
 | some i => rw [hg] at hc; injection hc with hc; exact ⟨i, rfl, hc⟩
theorem get_none (hc : cont d s = none) : d.names.get s = none := by
 unfold cont at hc
 cases hg : d.names.get s with
 | none => rfl
 | some i => rw [hg] at hc; cases hc
theorem recall (h : Calm d) (n : Int) : Calm { d with calls := n } := by
 obtain ⟨⟨a1, a2, a3, a4, a5, a6, a7, a8, b1, b2, b3, a9, a10⟩, c1, c2, c3, c4⟩ := h
 exact ⟨⟨a1, a2, a3, a4, a5, a6, a7, a8, b1, b2, b3, a9, a10⟩, c1, c2, c3, c4⟩
theorem read (h : Calm d) (hs : Sd.named s = true) {x : List UInt8} (hc : cont d s = some x) : d.read s = (x, 0) := by
 obtain ⟨i, hg, hx⟩ := get_of hc
 unfold Sd.read
 rw [if_neg (by simp [hs]), if_neg (by simp [h.dead]), hg]
 simp only
 rw [hx]
theorem read_none (h : Calm d) (hs : Sd.named s = true) (hc : cont d s = none) : (d.read s).2 = 11 := by
 unfold Sd.read
 rw [if_neg (by simp [hs]), if_neg (by simp [h.dead]), get_none hc]
theorem create (h : Calm d) (hs : Sd.named s = true) (hc : cont d s = none) (hn : d.names.length < 64) : (d.create s).2 = 0 ∧ Calm (d.create s).1 ∧ cont (d.create s).1 = upd (cont d) s (some []) ∧ (d.create s).1.quota = d.quota := by
 have hw := h.wf.create s
 have hg := get_none hc
 have e : d.create s = ({ d with calls := RowKit.wrap64 (d.calls + 1), names := d.names.put s d.files.length, turns := d.turns ++ [⟨1, d.files.length, s, []⟩], files := d.files ++ [([], 0)] }, 0) := by
  unfold Sd.create
  rw [h.call (by simpa using hs)]
  simp only [ne_eq, not_true_eq_false, if_false, hg, Option.isSome_none, Bool.false_eq_true]
  rw [if_neg (by omega)]
 rw [e] at hw ⊢
 refine ⟨rfl, ⟨hw, h.dead, h.stop, h.fail, fun p hp q hq he => ?_⟩, ?_, rfl⟩
 ·rcases Nm.mem_put.1 hp with rfl | ⟨hp, _⟩ <;> rcases Nm.mem_put.1 hq with rfl | ⟨hq, _⟩
  ·rfl
  ·have := h.wf.names q hq
   simp only at he
   omega
  ·have := h.wf.names p hp
   simp only at he
   omega
  ·exact h.inj p hp q hq he
 ·funext t
  unfold cont upd
  dsimp only
  by_cases ht : t = s
  ·subst ht
   rw [if_pos rfl, Nm.get_put_same h.wf.apart]
   simp
  ·rw [if_neg ht, Nm.get_put_other h.wf.apart ht]
   cases hgt : d.names.get t with
   | none => rfl
   | some i =>
    have hi := h.wf.names _ (Nm.get_mem hgt)
    simp only at hi
    simp [List.getD_eq_getElem?_getD, List.getElem?_append_left hi]
theorem cont_set (h : Calm d) {i : Nat} (hg : d.names.get s = some i) (f : List UInt8 × Nat) : cont { d with files := d.files.set i f } = upd (cont d) s (some f.1) := by
 funext t
 have hi : i < d.files.length := h.wf.names _ (Nm.get_mem hg)
 unfold cont upd
 dsimp only
 by_cases ht : t = s
 ·subst ht
  rw [if_pos rfl, hg]
  simp [List.getD_eq_getElem?_getD, hi]
 ·rw [if_neg ht]
  cases hgt : d.names.get t with
  | none => rfl
  | some j =>
   have hij : i ≠ j := fun e => ht ((h.inj _ (Nm.get_mem hgt) _ (Nm.get_mem hg) (by simp [e])))
   simp [List.getD_eq_getElem?_getD, List.getElem?_set, hij]
theorem append (h : Calm d) (hs : Sd.named s = true) {x : List UInt8} (hc : cont d s = some x) (b : List UInt8) (h1 : x.length + b.length ≤ 250000) (h2 : d.used + b.length ≤ d.quota) : (d.append s b).2 = 0 ∧ Calm (d.append s b).1 ∧ cont (d.append s b).1 = upd (cont d) s (some (x ++ b)) ∧ (d.append s b).1.quota = d.quota := by
 have hw := h.wf.append s b
 obtain ⟨i, hg, hx⟩ := get_of hc
 have e : d.append s b = ({ d with calls := RowKit.wrap64 (d.calls + 1), files := d.files.set i (x ++ b, (d.files.getD i ([], 0)).2) }, 0) := by
  unfold Sd.append
  rw [h.call (by simpa using hs)]
  simp only [ne_eq, not_true_eq_false, if_false, hg]
  unfold Sd.size
  rw [hx, if_neg (by omega), if_neg (by omega)]
 rw [e] at hw ⊢
 refine ⟨rfl, ⟨hw, h.dead, h.stop, h.fail, h.inj⟩, ?_, rfl⟩
 exact (h.recall (RowKit.wrap64 (d.calls + 1))).cont_set hg _
theorem sync (h : Calm d) (hs : Sd.named s = true) {x : List UInt8} (hc : cont d s = some x) : (d.sync s).2 = 0 ∧ Calm (d.sync s).1 ∧ cont (d.sync s).1 = cont d ∧ (d.sync s).1.quota = d.quota := by
 have hw := h.wf.sync s
 obtain ⟨i, hg, hx⟩ := get_of hc
 have e : d.sync s = ({ d with calls := RowKit.wrap64 (d.calls + 1), files := d.files.set i (x, d.size i) }, 0) := by
  unfold Sd.sync
  rw [h.call (by simpa using hs)]
  simp only [ne_eq, not_true_eq_false, if_false, hg]
  rw [hx]
 rw [e] at hw ⊢
 refine ⟨rfl, ⟨hw, h.dead, h.stop, h.fail, h.inj⟩, ?_, rfl⟩
 have h2 := (h.recall (RowKit.wrap64 (d.calls + 1))).cont_set hg (x, d.size i)
 refine h2.trans ?_
 funext t
 unfold upd
 split
 ·subst_vars; exact hc.symm
 ·rfl
theorem length_names (h : Calm d) {K : List (List UInt8)} {B : Nat} (hk : Small d K B) : d.names.length ≤ K.length ∧ d.used ≤ K.length * B := by
 have key : ∀ (m : Nm) (K : List (List UInt8)), Nm.Apart m → (∀ p ∈ m, p.1 ∈ K ∧ d.size p.2 ≤ B) → m.length ≤ K.length ∧ (m.map fun p => d.size p.2).sum ≤ K.length * B := by
  intro m
  induction m with
  | nil => intro K _ _; simp
  | cons p r ih =>
   intro K ha hm
   obtain ⟨h1, h2⟩ := List.pairwise_cons.1 ha
   obtain ⟨hp, hs⟩ := hm p (by simp)
   have hl := List.length_erase_of_mem hp
   have hpos : 0 < K.length := List.length_pos_of_mem hp
   obtain ⟨i1, i2⟩ := ih (K.erase p.1) h2 (fun q hq => ⟨by
    have := (hm q (by simp [hq])).1
    exact (List.mem_erase_of_ne (fun e => h1 q hq e.symm)).2 this, (hm q (by simp [hq])).2⟩)
   rw [hl] at i1 i2
   refine ⟨by simp; omega, ?_⟩
   simp only [List.map_cons, List.sum_cons]
   have e : K.length * B = (K.length - 1) * B + B := by
    conv => lhs; rw [show K.length = (K.length - 1) + 1 by omega, Nat.add_mul, Nat.one_mul]
   omega
 refine key d.names K h.wf.apart (fun p hp => ?_)
 have hg := Nm.mem_get h.wf.apart (s := p.1) (i := p.2) (by simpa using hp)
 have hc : cont d p.1 = some (d.files.getD p.2 ([], 0)).1 := by unfold cont; rw [hg]; rfl
 exact ⟨hk.names _ _ hc, hk.len _ _ hc⟩
theorem write (h : Calm d) (hs : Sd.named s = true) (hc : cont d s = none) {K : List (List UInt8)} {B : Nat} (hk : Small d K B) (hK : K.length < 64) (b : List UInt8) (h1 : b.length ≤ 250000) (h2 : (K.length + 1) * B + b.length ≤ d.quota) :
  (d.write s b).2 = 0 ∧ Calm (d.write s b).1 ∧ cont (d.write s b).1 = upd (cont d) s (some b) ∧ (d.write s b).1.quota = d.quota := by
 obtain ⟨l1, l2⟩ := h.length_names hk
 obtain ⟨c1, c2, c3, c4⟩ := h.create hs hc (by omega)
 have hk2 : Small (d.create s).1 (s :: K) B := ⟨fun t x ht => by
  rw [c3] at ht
  unfold upd at ht
  split at ht
  ·subst_vars; simp
  ·exact List.mem_cons_of_mem _ (hk.names t x ht), fun t x ht => by
  rw [c3] at ht
  unfold upd at ht
  split at ht
  ·injection ht with ht; subst ht; simp
  ·exact hk.len t x ht⟩
 obtain ⟨_, l4⟩ := c2.length_names hk2
 have hcs : cont (d.create s).1 s = some [] := by rw [c3, upd, if_pos rfl]
 simp only [List.length_cons] at l4
 obtain ⟨a1, a2, a3, a4⟩ := c2.append hs hcs b (by simp; exact h1) (by rw [c4]; omega)
 have hcb : cont ((d.create s).1.append s b).1 s = some b := by rw [a3, upd, if_pos rfl]; rfl
 obtain ⟨b1, b2, b3, b4⟩ := a2.sync hs hcb
 unfold Sd.write
 rw [if_neg (by simp [c1]), if_neg (by simp [a1])]
 refine ⟨b1, b2, ?_, b4.trans (a4.trans c4)⟩
 rw [b3, a3, c3]
 funext t
 unfold upd
 split <;> rfl
theorem remove (h : Calm d) (hs : Sd.named s = true) {x : List UInt8} (hc : cont d s = some x) : (d.remove s).2 = 0 ∧ Calm (d.remove s).1 ∧ cont (d.remove s).1 = upd (cont d) s none ∧ (d.remove s).1.quota = d.quota := by
 have hw := h.wf.remove s
 obtain ⟨i, hg, hx⟩ := get_of hc
 have e : d.remove s = ({ d with calls := RowKit.wrap64 (d.calls + 1), names := d.names.del s, turns := d.turns ++ [⟨3, 0, s, []⟩] }, 0) := by
  unfold Sd.remove
  rw [h.call (by simpa using hs)]
  simp only [ne_eq, not_true_eq_false, if_false, hg, Option.isNone_some, Bool.false_eq_true]
  rfl
 rw [e] at hw ⊢
 refine ⟨rfl, ⟨hw, h.dead, h.stop, h.fail, fun p hp q hq he => h.inj p (Nm.mem_del.1 hp).1 q (Nm.mem_del.1 hq).1 he⟩, ?_, rfl⟩
 funext t
 unfold cont upd
 dsimp only
 by_cases ht : t = s
 ·subst ht
  rw [if_pos rfl, Nm.get_del_same]
  rfl
 ·rw [if_neg ht, Nm.get_del_other h.wf.apart ht]
theorem rename (h : Calm d) {a b : List UInt8} (ha : Sd.named a = true) (hb : Sd.named b = true) (hne : a ≠ b) {x : List UInt8} (hc : cont d a = some x) : (d.rename a b).2 = 0 ∧ Calm (d.rename a b).1 ∧ cont (d.rename a b).1 = upd (upd (cont d) b (some x)) a none ∧ (d.rename a b).1.quota = d.quota := by
 have hw := h.wf.rename a b
 obtain ⟨i, hg, hx⟩ := get_of hc
 have hgo : Tn.go ⟨2, 0, a, b⟩ d.names = (d.names.put b i).del a := by unfold Tn.go; simp [hg]
 have e : d.rename a b = ({ d with calls := RowKit.wrap64 (d.calls + 1), names := (d.names.put b i).del a, turns := d.turns ++ [⟨2, 0, a, b⟩] }, 0) := by
  unfold Sd.rename
  rw [h.call (by simp [ha, hb])]
  simp only [ne_eq, not_true_eq_false, if_false, hg, Option.isNone_some, Bool.false_eq_true, hne]
  rw [hgo]
 rw [e] at hw ⊢
 have hap := Nm.apart_put h.wf.apart b i
 refine ⟨rfl, ⟨hw, h.dead, h.stop, h.fail, fun p hp q hq he => ?_⟩, ?_, rfl⟩
 ·obtain ⟨hp, hpa⟩ := Nm.mem_del.1 hp
  obtain ⟨hq, hqa⟩ := Nm.mem_del.1 hq
  have ham := Nm.get_mem hg
  rcases Nm.mem_put.1 hp with rfl | ⟨hp, _⟩ <;> rcases Nm.mem_put.1 hq with rfl | ⟨hq, _⟩
  ·rfl
  ·exact absurd (h.inj _ ham q hq (by simpa using he)).symm hqa
  ·exact absurd (h.inj p hp _ ham (by simpa using he)) hpa
  ·exact h.inj p hp q hq he
 ·funext t
  unfold cont upd
  dsimp only
  by_cases ht : t = a
  ·subst ht
   rw [if_pos rfl, Nm.get_del_same]
   rfl
  ·rw [if_neg ht, Nm.get_del_other hap ht]
   by_cases ht2 : t = b
   ·subst ht2
    rw [if_pos rfl, Nm.get_put_same h.wf.apart]
    simp only [Option.map_some]
    rw [hx]
   ·rw [if_neg ht2, Nm.get_put_other h.wf.apart ht2]
theorem syncDir (h : Calm d) : (d.syncDir).2 = 0 ∧ Calm (d.syncDir).1 ∧ cont (d.syncDir).1 = cont d ∧ (d.syncDir).1.quota = d.quota := by
 have hw := h.wf.syncDir
 have e : d.syncDir = ({ d with calls := RowKit.wrap64 (d.calls + 1), lasted := d.names, turns := [] }, 0) := by
  unfold Sd.syncDir
  rw [h.call rfl]
  rfl
 rw [e] at hw ⊢
 exact ⟨rfl, ⟨hw, h.dead, h.stop, h.fail, h.inj⟩, rfl, rfl⟩
theorem mem_list (h : Calm d) : s ∈ d.list ↔ ∃ x, cont d s = some x := by
 unfold Sd.list
 rw [if_neg (by simp [h.dead]), List.mem_mergeSort]
 constructor
 ·intro hm
  obtain ⟨p, hp, rfl⟩ := List.mem_map.1 hm
  have hg := Nm.mem_get h.wf.apart (s := p.1) (i := p.2) (by simpa using hp)
  exact ⟨_, by unfold cont; rw [hg]; rfl⟩
 ·rintro ⟨x, hx⟩
  obtain ⟨i, hg, _⟩ := get_of hx
  exact List.mem_map.2 ⟨(s, i), Nm.get_mem hg, rfl⟩
end Calm
end
section
open Go
namespace Mw
open Mn
def man (n : Nat) : List UInt8 := name kMan n
def rest (n : Nat) (t : List UInt8) : List UInt8 → Option (List UInt8) := fun s => if s = man n then some t else if s = kCur then some (headB n) else none
theorem fits_kMan {n : Nat} (h1 : 1 ≤ n) (h2 : n ≤ 1073741824) : (fits n && isKind kMan) = true := by
 have : isKind kMan = true := by decide
 rw [this]
 simp [fits]
 omega
theorem man_digits {n : Nat} (h1 : 1 ≤ n) (h2 : n ≤ 1073741824) : man n = [109, 97, 110, 46] ++ Lib.decDigits n := by
 rw [man, name_digits (fits_kMan h1 h2)]
 rfl
theorem man_named {n : Nat} (h1 : 1 ≤ n) (h2 : n ≤ 1073741824) : Sd.named (man n) = true := name_named (fits_kMan h1 h2)
theorem man_cur {n : Nat} (h1 : 1 ≤ n) (h2 : n ≤ 1073741824) : man n ≠ kCur := by
 rw [man_digits h1 h2]
 simp [kCur]
theorem man_temp {n : Nat} (h1 : 1 ≤ n) (h2 : n ≤ 1073741824) : man n ≠ kTemp := by
 rw [man_digits h1 h2]
 simp [kTemp]
theorem cur_temp : kCur ≠ kTemp := by decide
theorem man_inj {n k : Nat} (h1 : 1 ≤ n) (h2 : n ≤ 1073741824) (e : man k = man n) : k = n := by
 have := name_inj (fits_kMan h1 h2) e
 omega
theorem number_man {n : Nat} (h1 : 1 ≤ n) (h2 : n ≤ 1073741824) : number (man n) kMan = some (n : Int) := number_name (fits_kMan h1 h2)
theorem number_cur : number kCur kMan = none := by
 unfold number
 rw [if_neg (by decide)]
theorem number_temp : number kTemp kMan = none := by
 unfold number
 rw [if_neg (by decide)]
theorem sweep_none (nm : List UInt8) : ∀ (l : List (List UInt8)) (d : Sd), (∀ s ∈ l, (number s kMan).isSome = true → s = nm) → sweep nm l d = d
 | [], d, _ => rfl
 | o :: r, d, h => by
  rw [sweep]
  have : ((number o kMan).isSome && !(o == nm)) = false := by
   cases ho : (number o kMan).isSome with
   | false => rfl
   | true =>
    have := h o (by simp) ho
    simp [this]
  rw [this]
  exact sweep_none nm r d (fun s hs => h s (by simp [hs]))
theorem sweep_one {nm : List UInt8} {old : List UInt8} (hold : Sd.named old = true) (hne : old ≠ nm) (hnum : (number old kMan).isSome = true) : ∀ (l : List (List UInt8)) (d : Sd), Calm d → (∃ x, cont d old = some x) → old ∈ l → (∀ s ∈ l, (number s kMan).isSome = true → s = nm ∨ s = old) → l.Nodup →
  Calm (sweep nm l d) ∧ cont (sweep nm l d) = upd (cont d) old none ∧ (sweep nm l d).quota = d.quota
 | [], _, _, _, h, _, _ => by cases h
 | o :: r, d, hc, hx, hm, hl, hnd => by
  obtain ⟨n1, n2⟩ := List.nodup_cons.1 hnd
  rw [sweep]
  rcases List.mem_cons.1 hm with rfl | hm
  ·obtain ⟨x, hx⟩ := hx
   obtain ⟨r1, r2, r3, r4⟩ := hc.remove hold hx
   have : ((number old kMan).isSome && !(old == nm)) = true := by simp [hnum, hne]
   rw [this, if_pos rfl, sweep_none nm r _ (fun s hs h => by
    rcases hl s (by simp [hs]) h with h1 | h1
    ·exact h1
    ·exact absurd (h1 ▸ hs) n1)]
   exact ⟨r2, r3, r4⟩
  ·have : ((number o kMan).isSome && !(o == nm)) = false := by
    cases ho : (number o kMan).isSome with
    | false => rfl
    | true =>
     rcases hl o (by simp) ho with h1 | h1
     ·simp [h1]
     ·exact absurd (h1 ▸ hm) n1
   rw [this]
   exact sweep_one hold hne hnum r d hc hx hm (fun s hs => hl s (by simp [hs])) n2
theorem list_nodup {d : Sd} (h : Calm d) : d.list.Nodup := by
 unfold Sd.list
 rw [if_neg (by simp [h.dead])]
 have h1 : (d.names.map (·.1)).Nodup := by
  have := h.wf.apart
  unfold Nm.Apart at this
  exact List.Pairwise.map _ (fun a b hab => hab) this
 exact (List.mergeSort_perm _ _).nodup_iff.2 h1
theorem cur_named : Sd.named kCur = true := by decide
theorem temp_named : Sd.named kTemp = true := by decide
end Mw
end
section
open Go
namespace Gw
open Mn
open Mw (kCur kTemp headB sweep man rest man_named man_cur man_temp man_inj cur_temp cur_named temp_named number_man number_cur number_temp sweep_none sweep_one list_nodup)
end Gw
end
section
open Go Go.RowKit Go.Shelf
structure At (W0 w : World) (X : Dw) (S : Sd) (m : Nat) (M : Ms) : Prop where
 dm : Dm w X S
 man : MK w m X.d M
 away : m ∉ X.foot
 low : ∀ g ∈ X.foot, W0.heap.size ≤ g
 lowm : W0.heap.size ≤ m
 bel : Below W0.heap.size W0 w
variable {W0 w w1 w2 : World} {X X1 : Dw} {S S1 : Sd} {m m1 : Nat} {M M1 : Ms}
theorem Chg.under {F : List Nat} {B : Nat} (h : Chg F w w1) (hB : B ≤ w.heap.size) (hF : ∀ g ∈ F, B ≤ g) : Below B w w1 := h.below hB hF
theorem At.below (h : At W0 w X S m M) (hb : Below w.heap.size w w1) : At W0 w1 X S m M := ⟨h.dm.below hb, h.man.below hb, h.away, h.low, h.lowm, h.bel.trans (hb.mono h.bel.size)⟩
theorem At.acc (h : At W0 w X S m M) (k : Acc [] X w S1 w1 X1) : At W0 w1 X1 S1 m M := by
 have hc : Chg X.foot w w1 := by simpa using k.c
 have ha : m ∉ X1.foot := fun hm => by
  rcases k.f m hm with h1 | h1
  ·exact h.away h1
  ·have := h.man.lt
   omega
 exact ⟨k.dm, by rw [k.e]; exact h.man.chg hc h.away, ha, fun g hg => by
  rcases k.f g hg with h1 | h1
  ·exact h.low g h1
  ·exact Nat.le_trans h.bel.size h1, h.lowm, h.bel.trans (hc.under h.bel.size h.low)⟩
theorem At.born (h : At W0 w X S m M) (k : Born X w S1 M1 m1 w1 X1) : At W0 w1 X1 S1 m1 M1 ∧ MK w1 m X.d M :=
 ⟨⟨k.dm, by rw [k.e]; exact k.man, k.away, fun g hg => by
  rcases k.f g hg with h1 | h1
  ·exact h.low g h1
  ·exact Nat.le_trans h.bel.size h1, Nat.le_trans h.bel.size k.new, h.bel.trans (k.c.under h.bel.size h.low)⟩, h.man.chg k.c h.away⟩
def text (es : List Bv) : List UInt8 := Fr.all 6 (es.map Bv.bytes)
theorem bytes_len (e : Bv) : e.bytes.length ≤ 60000 := by
 have h := recB_len e
 rw [Mw.recB, Fr.put_length] at h
 omega
structure Chain (es : List Bv) : Prop where
 pos : 0 < es.length
 may : ∀ e ∈ es, e.may = true
 ok : ∀ k, k < es.length → (Bv.run (es.take (k + 1))).ok = true
theorem Chain.one {e : Bv} (h : e.ok = true) (hz : Bv.app Bv.zero e = e) : Chain [e] := ⟨by simp, fun x hx => by
 rw [List.mem_singleton.1 hx]
 obtain ⟨_, h2, h3⟩ := Bv.ok_iff.1 h
 exact Bv.may_iff.2 ⟨h2, h3⟩, fun k hk => by
 have : k = 0 := by simp at hk; omega
 subst this
 simpa [Bv.run, hz] using h⟩
namespace Mw
open Mn
end Mw
end
section
open Go Go.RowKit Go.Shelf
def v1 : Bv := ⟨1, 0, 0, 0, 0⟩
end
section
open Go Go.RowKit Go.Shelf
structure GAt (P : Sl) (W0 w : World) (X : Dw) (S : Sd) (m : Nat) (M : Gs) : Prop where
 dm : Dm w X S
 man : GK w m X.d M P
 row : Vrow w X m P M.v.files
 away : m ∉ X.foot
 low : ∀ g ∈ X.foot, W0.heap.size ≤ g
 lowm : W0.heap.size ≤ m
 bel : Below W0.heap.size W0 w
variable {P P1 : Sl} {W0 w w1 w2 : World} {X X1 : Dw} {S S1 : Sd} {m m1 : Nat} {M M1 : Gs}
theorem GAt.below (h : GAt P W0 w X S m M) (hb : Below w.heap.size w w1) : GAt P W0 w1 X S m M := ⟨h.dm.below hb, h.man.below hb, h.row.below hb, h.away, h.low, h.lowm, h.bel.trans (hb.mono h.bel.size)⟩
theorem GAt.acc (h : GAt P W0 w X S m M) (k : Acc [] X w S1 w1 X1) : GAt P W0 w1 X1 S1 m M := by
 have hc : Chg X.foot w w1 := by simpa using k.c
 have ha : m ∉ X1.foot := fun hm => by
  rcases k.f m hm with h1 | h1
  ·exact h.away h1
  ·have := h.man.lt
   omega
 exact ⟨k.dm, by rw [k.e]; exact h.man.chg hc h.away, h.row.step hc k.f, ha, fun g hg => by
  rcases k.f g hg with h1 | h1
  ·exact h.low g h1
  ·exact Nat.le_trans h.bel.size h1, h.lowm, h.bel.trans (hc.under h.bel.size h.low)⟩
theorem GAt.born (h : GAt P W0 w X S m M) (k : GBorn P1 X w S1 M1 m1 w1 X1) : GAt P1 W0 w1 X1 S1 m1 M1 ∧ GK w1 m X.d M P :=
 ⟨⟨k.dm, by rw [k.e]; exact k.man, k.row, k.away, fun g hg => by
  rcases k.f g hg with h1 | h1
  ·exact h.low g h1
  ·exact Nat.le_trans h.bel.size h1, Nat.le_trans h.bel.size k.new, h.bel.trans (k.c.under h.bel.size h.low)⟩, h.man.chg k.c h.away⟩
def v1g : Vw := ⟨1, [], 0, 0, 0, 0⟩
end
section
open Go Go.RowKit
structure Ev where
 e : Ed
 D : Option Addr
 m : Nat
 d : Nat
 A : Option Addr
 n : Nat
 c : Nat
def Ev.cs (x : Ev) : List Value := x.e.cells x.D x.m x.d x.A x.n x.c
theorem Ev.cs_len (x : Ev) : x.cs.length = 7 := rfl
structure Ev.ok (B : Nat) (w : World) (x : Ev) : Prop where
 d : Row B w x.D x.m 1 (icells x.e.drop)
 a : Row B w x.A x.n 2 (fcells x.e.add)
 nc : x.n ≤ x.c
 cm : x.c ≤ maxLen
structure Vc where
 v : Vw
 A : Option Addr
 n : Nat
 c : Nat
def Vc.cs (x : Vc) : List Value := x.v.cells x.A x.n x.c
theorem Vc.cs_len (x : Vc) : x.cs.length = 6 := rfl
structure Vc.ok (B : Nat) (w : World) (x : Vc) : Prop where
 row : Row B w x.A x.n 2 (fcells x.v.files)
 nc : x.n ≤ x.c
 cm : x.c ≤ maxLen
 few : x.n ≤ 40
structure Eds (B : Nat) (w : World) (A : Option Addr) (n : Nat) (xs : List Ev) : Prop where
 row : Row B w A n 7 (xs.flatMap Ev.cs)
 ok : ∀ x ∈ xs, x.ok B w
structure Vws (B : Nat) (w : World) (A : Option Addr) (n : Nat) (xs : List Vc) : Prop where
 row : Row B w A n 6 (xs.flatMap Vc.cs)
 ok : ∀ x ∈ xs, x.ok B w
variable {B B' n : Nat} {w w' : World} {A : Option Addr} {xs : List Ev} {ys : List Vc}
theorem Ev.ok.below {x : Ev} (h : x.ok B w) (hb : Below B w w') : x.ok B w' := ⟨h.d.below hb, h.a.below hb, h.nc, h.cm⟩
theorem Ev.ok.up {x : Ev} (h : x.ok B w) (hb : B ≤ B') : x.ok B' w := ⟨h.d.up hb, h.a.up hb, h.nc, h.cm⟩
theorem Vc.ok.below {x : Vc} (h : x.ok B w) (hb : Below B w w') : x.ok B w' := ⟨h.row.below hb, h.nc, h.cm, h.few⟩
theorem Vc.ok.up {x : Vc} (h : x.ok B w) (hb : B ≤ B') : x.ok B' w := ⟨h.row.up hb, h.nc, h.cm, h.few⟩
theorem Eds.below (h : Eds B w A n xs) (hb : Below B w w') : Eds B w' A n xs := ⟨h.row.below hb, fun x hx => (h.ok x hx).below hb⟩
theorem Eds.up (h : Eds B w A n xs) (hb : B ≤ B') : Eds B' w A n xs := ⟨h.row.up hb, fun x hx => (h.ok x hx).up hb⟩
theorem Vws.below (h : Vws B w A n ys) (hb : Below B w w') : Vws B w' A n ys := ⟨h.row.below hb, fun x hx => (h.ok x hx).below hb⟩
theorem Vws.up (h : Vws B w A n ys) (hb : B ≤ B') : Vws B' w A n ys := ⟨h.row.up hb, fun x hx => (h.ok x hx).up hb⟩
theorem Eds.len (h : Eds B w A n xs) : xs.length = n := by
 have := h.row.len
 rw [gflat_len Ev.cs 7 Ev.cs_len] at this
 omega
theorem Vws.len (h : Vws B w A n ys) : ys.length = n := by
 have := h.row.len
 rw [gflat_len Vc.cs 6 Vc.cs_len] at this
 omega
structure EvAt (w : World) (a : Addr) (k : Nat) (x : Ev) : Prop where
 c0 : w.cell? (a.add (k * 7)) = some (.slice x.D x.m x.d)
 c1 : w.cell? ⟨(a.add (k * 7)).block, (a.add (k * 7)).off + 1, none⟩ = some (.slice x.A x.n x.c)
 c2 : w.cell? ⟨(a.add (k * 7)).block, (a.add (k * 7)).off + 2, none⟩ = some (.int .i64 x.e.log)
 c3 : w.cell? ⟨(a.add (k * 7)).block, (a.add (k * 7)).off + 3, none⟩ = some (.int .u64 (x.e.floor : Int))
 c4 : w.cell? ⟨(a.add (k * 7)).block, (a.add (k * 7)).off + 4, none⟩ = some (.int .u64 (x.e.cert : Int))
 c5 : w.cell? ⟨(a.add (k * 7)).block, (a.add (k * 7)).off + 5, none⟩ = some (.int .u64 (x.e.at_ : Int))
 c6 : w.cell? ⟨(a.add (k * 7)).block, (a.add (k * 7)).off + 6, none⟩ = some (.int .u64 (x.e.lease : Int))
structure VcAt (w : World) (a : Addr) (k : Nat) (x : Vc) : Prop where
 c0 : w.cell? (a.add (k * 6)) = some (.int .i64 x.v.log)
 c1 : w.cell? ⟨(a.add (k * 6)).block, (a.add (k * 6)).off + 1, none⟩ = some (.slice x.A x.n x.c)
 c2 : w.cell? ⟨(a.add (k * 6)).block, (a.add (k * 6)).off + 2, none⟩ = some (.int .u64 (x.v.floor : Int))
 c3 : w.cell? ⟨(a.add (k * 6)).block, (a.add (k * 6)).off + 3, none⟩ = some (.int .u64 (x.v.cert : Int))
 c4 : w.cell? ⟨(a.add (k * 6)).block, (a.add (k * 6)).off + 4, none⟩ = some (.int .u64 (x.v.at_ : Int))
 c5 : w.cell? ⟨(a.add (k * 6)).block, (a.add (k * 6)).off + 5, none⟩ = some (.int .u64 (x.v.lease : Int))
theorem Eds.at_ (h : Eds B w A n xs) {k : Nat} (hk : k < n) : ∃ a, ∃ hl : k < xs.length, A = some a ∧ a.block < B ∧ EvAt w a k xs[k] ∧ (xs[k]).ok B w := by
 have hl : k < xs.length := by have := h.len; omega
 have g := fun j (hj : j < 7) => gflat_get Ev.cs 7 Ev.cs_len xs k j hl hj
 obtain ⟨a, ea, hb, c0⟩ := row_cell h.row (g 0 (by omega))
 have cc : ∀ j v, j < 7 → (Ev.cs xs[k])[j]? = some v → w.cell? (a.add (k * 7 + j)) = some v := fun j v hj hv => by
  obtain ⟨a', ea', _, c⟩ := row_cell h.row ((g j hj).trans hv)
  rw [ea] at ea'
  injection ea' with ea'
  subst ea'
  exact c
 have cd : ∀ j v, 0 < j → j < 7 → (Ev.cs xs[k])[j]? = some v → w.cell? ⟨(a.add (k * 7)).block, (a.add (k * 7)).off + j, none⟩ = some v := fun j v h0 hj hv => by
  rw [← fadd_at a (k * 7) h0]
  exact cc j v hj hv
 exact ⟨a, hl, ea, hb, ⟨c0, cd 1 _ (by omega) (by omega) rfl, cd 2 _ (by omega) (by omega) rfl, cd 3 _ (by omega) (by omega) rfl, cd 4 _ (by omega) (by omega) rfl, cd 5 _ (by omega) (by omega) rfl, cd 6 _ (by omega) (by omega) rfl⟩, h.ok _ (List.getElem_mem hl)⟩
theorem Vws.at_ (h : Vws B w A n ys) {k : Nat} (hk : k < n) : ∃ a, ∃ hl : k < ys.length, A = some a ∧ a.block < B ∧ VcAt w a k ys[k] ∧ (ys[k]).ok B w := by
 have hl : k < ys.length := by have := h.len; omega
 have g := fun j (hj : j < 6) => gflat_get Vc.cs 6 Vc.cs_len ys k j hl hj
 obtain ⟨a, ea, hb, c0⟩ := row_cell h.row (g 0 (by omega))
 have cc : ∀ j v, j < 6 → (Vc.cs ys[k])[j]? = some v → w.cell? (a.add (k * 6 + j)) = some v := fun j v hj hv => by
  obtain ⟨a', ea', _, c⟩ := row_cell h.row ((g j hj).trans hv)
  rw [ea] at ea'
  injection ea' with ea'
  subst ea'
  exact c
 have cd : ∀ j v, 0 < j → j < 6 → (Vc.cs ys[k])[j]? = some v → w.cell? ⟨(a.add (k * 6)).block, (a.add (k * 6)).off + j, none⟩ = some v := fun j v h0 hj hv => by
  rw [← fadd_at a (k * 6) h0]
  exact cc j v hj hv
 exact ⟨a, hl, ea, hb, ⟨c0, cd 1 _ (by omega) (by omega) rfl, cd 2 _ (by omega) (by omega) rfl, cd 3 _ (by omega) (by omega) rfl, cd 4 _ (by omega) (by omega) rfl, cd 5 _ (by omega) (by omega) rfl⟩, h.ok _ (List.getElem_mem hl)⟩
theorem EvAt.keep {a : Addr} {k : Nat} {x : Ev} (h : EvAt w a k x) (hc : ∀ p : Addr, p.block = a.block → w'.cell? p = w.cell? p) : EvAt w' a k x := by
 have e := add_block a (k * 7)
 exact ⟨(hc _ e).trans h.c0, (hc ⟨(a.add (k * 7)).block, _, none⟩ e).trans h.c1, (hc ⟨(a.add (k * 7)).block, _, none⟩ e).trans h.c2, (hc ⟨(a.add (k * 7)).block, _, none⟩ e).trans h.c3, (hc ⟨(a.add (k * 7)).block, _, none⟩ e).trans h.c4, (hc ⟨(a.add (k * 7)).block, _, none⟩ e).trans h.c5, (hc ⟨(a.add (k * 7)).block, _, none⟩ e).trans h.c6⟩
theorem EvAt.below {a : Addr} {k : Nat} {x : Ev} (h : EvAt w a k x) (ha : a.block < B) (hb : Below B w w') : EvAt w' a k x := h.keep fun p hp => hb.cell (by omega)
structure Edz (b0 base : Nat) (w : World) (gv ov : Value) (gs : List Ev) (vs : List Vc) : Prop where
 good : w.ownsRow base 163 7 gv gs.length (gs.flatMap Ev.cs)
 out : w.ownsRow base 134 6 ov vs.length (vs.flatMap Vc.cs)
 ge : ∀ x ∈ gs, x.ok b0 w
 ve : ∀ y ∈ vs, y.ok w.heap.size w ∧ ∀ j, j < (fcells y.v.files).length → ∀ a, y.A = some a → some a.block ≠ gv.ownBlock ∧ some a.block ≠ ov.ownBlock ∧ base ≤ a.block
 sep : ∀ g, gv.ownBlock = some g → ov.ownBlock ≠ some g
variable {b0 base : Nat} {gv ov gv' ov' : Value} {gs : List Ev} {vs : List Vc}
theorem Edz.below (h : Edz b0 base w gv ov gs vs) (hb : Below w.heap.size w w') (hB : b0 ≤ w.heap.size) : Edz b0 base w' gv ov gs vs :=
 ⟨own_below h.good hb, own_below h.out hb, fun x hx => (h.ge x hx).below (hb.mono hB), fun y hy => ⟨((h.ve y hy).1.below hb).up hb.size, (h.ve y hy).2⟩, h.sep⟩
theorem Edz.chg {g : Nat} (h : Edz b0 base w gv ov gs vs) (c : Chg [g] w w') (h0 : b0 ≤ g) (hg : g < base) (hB : b0 ≤ w.heap.size) : Edz b0 base w' gv ov gs vs :=
 ⟨own_chg h.good c (fun b hb hm => by have := (h.good.lt b hb).1; simp at hm; omega), own_chg h.out c (fun b hb hm => by have := (h.out.lt b hb).1; simp at hm; omega),
  fun x hx => (h.ge x hx).below (c.below hB (by simp; omega)), fun y hy => by
   obtain ⟨h1, h2⟩ := h.ve y hy
   exact ⟨⟨(row_chg c h1.row (Nat.le_refl _) (fun j hj a ha hm => by have := (h2 j hj a ha).2.2; simp at hm; omega)).up c.size, h1.nc, h1.cm, h1.few⟩, h2⟩, h.sep⟩
theorem row_lt {B n size : Nat} {xs : List Value} (h : Row B w A n size xs) {j : Nat} (hj : j < xs.length) {a : Addr} (ha : A = some a) : a.block < B := by
 obtain ⟨a', e, b, _⟩ := h.cell j hj
 rw [ha] at e
 injection e with e
 subst e
 exact b
structure GChain (es : List Ed) (vs : List Vw) : Prop where
 len : vs.length = es.length + 1
 one : vs[0]? = some v1g
 step : ∀ i (h : i < es.length), (es[i]).may = true ∧ ∃ u v, vs[i]? = some u ∧ vs[i + 1]? = some v ∧ u.app es[i] = some v
theorem GChain.start : GChain [] [v1g] := ⟨rfl, rfl, fun i h => by simp at h⟩
end
section
open Go Go.RowKit Go.Shelf
variable {P : Sl} {m : Nat} {X X1 : Dw} {w w1 w2 : World} {S S1 : Sd} {M M1 : Gs}
theorem Gst.turnV {P1 : Sl} {m : Nat} {X X1 : Dw} {w w1 w2 : World} {S : Sd} {M M1 : Gs} (h : Gst P m X w S M w1 X1) (c : Chg [m] w1 w2) (hm : GK w2 m X.d M1 P1) (hv : Vrow w2 X1 m P1 M1.v.files) : Gst P1 m X w S M1 w2 X1 :=
 ⟨h.acc.other c (fun g hg => by rw [List.mem_singleton.1 hg]; exact ⟨by simp, h.lt, h.out, h.ng⟩), hm, hv, h.lt, h.out, h.ng⟩
theorem gsave_any (e : Ed) (D : Option Addr) (dm dd : Nat) (A2 : Option Addr) (n2 c2 : Nat) (hdm : dm ≤ 1000000) (hn2 : n2 ≤ 1000000) (hrd : Row w.heap.size w D dm 1 (icells e.drop)) (hra : Row w.heap.size w A2 n2 2 (fcells e.add)) (hvf : P.n ≤ 40)
  (hc0 : M.count ≤ 1000000000) (hnl : M.name.length ≤ 1000) (h0 : Gst P m X w S M w X) :
  Calls Tryz.prog 179 #[.pointer (some ⟨m, 0, none⟩), e.val D dm dd A2 n2 c2] w (GLeft P m X w (Gw.save S M e)) := by
 obtain ⟨R, hR⟩ : ∃ R, R = Gw.save S M e := ⟨_, rfl⟩
 rw [← hR]
 unfold Ed.val
 have hbe : Below w.heap.size w (w.alloc (.cells #[.slice D dm dd, .slice A2 n2 c2, .int .i64 e.log, .int .u64 (e.floor : Int), .int .u64 (e.cert : Int), .int .u64 (e.at_ : Int), .int .u64 (e.lease : Int)] 163)) := (Below.refl _ _).alloc (Nat.le_refl _) _
 have h1 := h0.below hbe
 have hbx := BoxO.new w #[.slice D dm dd, .slice A2 n2 c2, .int .i64 e.log, .int .u64 (e.floor : Int), .int .u64 (e.cert : Int), .int .u64 (e.at_ : Int), .int .u64 (e.lease : Int)] 163
 have hrd1 := (hrd.below hbe).up hbe.size
 have hra1 := (hra.below hbe).up hbe.size
 have hlt := h0.man.lt
 have hbel0 := hbe
 generalize hV : w.alloc (.cells #[.slice D dm dd, .slice A2 n2 c2, .int .i64 e.log, .int .u64 (e.floor : Int), .int .u64 (e.cert : Int), .int .u64 (e.at_ : Int), .int .u64 (e.lease : Int)] 163) = V at *
 have b12 := h1.man.cell 12
 have y0 := hbx.cell 0
 have y1 := hbx.cell 1
 have y2 := hbx.cell 2
 have y3 := hbx.cell 3
 have y4 := hbx.cell 4
 have y5 := hbx.cell 5
 have y6 := hbx.cell 6
 simp only [Gs.cells, gE0, gE1] at b12 y0 y1 y2 y3 y4 y5 y6
 cases hbr : M.broken with
 | true =>
  have hh : R = (S, M, 14) := by rw [hR, Gw.save, if_pos hbr]
  have hl := Lib.hid (GLeft.mk_ hh h1)
  rw [hbr] at b12
  clear hR hh hbr
  go_enter Tryz.func179, Tryz.ntmps179
  go_wp2
  go_ret
  exact hl.out
 | false =>
 rw [hbr] at b12
 cases hmay : e.may with
 | false =>
  have hh : R = (S, M, 1) := by rw [hR, Gw.save, if_neg (by simp [hbr]), if_pos hmay]
  have hput := eput_bad none 0 0 e D dm dd A2 n2 c2 V hmay hdm hn2 hrd1 hra1
  unfold Ed.val at hput
  have HH := Lib.hid hh
  clear hR hh hbr hmay
  go_enter Tryz.func179, Tryz.ntmps179
  go_wp2_with fail
  refine hput.mono ?_
  rintro e1 w2 ⟨rfl, hb2⟩
  have hl := Lib.hid (GLeft.mk_ HH.out (h1.below hb2))
  go_wp2
  go_ret
  exact hl.out
 | true =>
  have hmp := may_parts hmay
  have hdl := hrd.ilen
  have hal := hra.flen
  have hrl := Ed.rec_len hmay
  have hput := eput_gen none 0 0 [] e D dm dd A2 n2 c2 V hmay hrd1 hra1 (by omega) (by omega) (by unfold maxLen; omega) Row.nil_
  have hrec : ([] : List UInt8) ++ e.rec_ = e.rec_ := rfl
  rw [hrec] at hput
  unfold Ed.val at hput
  obtain ⟨okb, hokb⟩ : ∃ b, b = (M.v.app e).isSome := ⟨_, rfl⟩
  obtain ⟨uu, huu⟩ : ∃ u, u = (M.v.app e).getD Vw.none_ := ⟨_, rfl⟩
  have HT : R = if okb = true then Gw.put S M e uu else (S, M, 1) := by
   rw [hR, Gw.save, if_neg (by simp [hbr]), if_neg (by simp [hmay])]
   rw [hokb, huu]
   cases M.v.app e with
   | none => rfl
   | some u => rfl
  have HTT := Lib.hid HT
  have hdm40 : dm ≤ 40 := by omega
  have hn240 : n2 ≤ 40 := by omega
  clear hR HT hbr hrec hmay hmp hdl hal
  go_enter Tryz.func179, Tryz.ntmps179
  go_wp2_with fail
  refine hput.mono ?_
  rintro e1 w2 ⟨A, K, c, rfl, hown, hKc, hcm, hb2⟩
  have h2 := h1.below hb2
  have hsz2 : w.heap.size ≤ w2.heap.size := h2.acc.c.size
  have hbx2 := hbx.below hb2
  have hrd2 := (hrd1.below hb2).up hb2.size
  have hra2 := (hra1.below hb2).up hb2.size
  have hKC : ∀ w' : World, Below w2.heap.size w2 w' → w'.cell? ⟨m, 2, none⟩ = some (.int .i64 M.v.log) ∧ w'.cell? ⟨m, 3, none⟩ = some (.slice P.a P.n P.c) ∧ w'.cell? ⟨m, 4, none⟩ = some (.int .u64 (M.v.floor : Int)) ∧ w'.cell? ⟨m, 5, none⟩ = some (.int .u64 (M.v.cert : Int)) ∧ w'.cell? ⟨m, 6, none⟩ = some (.int .u64 (M.v.at_ : Int)) ∧ w'.cell? ⟨m, 7, none⟩ = some (.int .u64 (M.v.lease : Int)) ∧
    w'.cell? ⟨w.heap.size, 0, none⟩ = some (.slice D dm dd) ∧ w'.cell? ⟨w.heap.size, 1, none⟩ = some (.slice A2 n2 c2) ∧ w'.cell? ⟨w.heap.size, 2, none⟩ = some (.int .i64 e.log) ∧ w'.cell? ⟨w.heap.size, 3, none⟩ = some (.int .u64 (e.floor : Int)) ∧ w'.cell? ⟨w.heap.size, 4, none⟩ = some (.int .u64 (e.cert : Int)) ∧ w'.cell? ⟨w.heap.size, 5, none⟩ = some (.int .u64 (e.at_ : Int)) ∧ w'.cell? ⟨w.heap.size, 6, none⟩ = some (.int .u64 (e.lease : Int)) := fun w' hb => by
   have hm2 := (h2.below hb).man
   have he2 := hbx2.below hb
   exact ⟨hm2.cell 2, hm2.cell 3, hm2.cell 4, hm2.cell 5, hm2.cell 6, hm2.cell 7, he2.cell 0, he2.cell 1, he2.cell 2, he2.cell 3, he2.cell 4, he2.cell 5, he2.cell 6⟩
  have KC := Lib.hid hKC
  have hap : ∀ W, Below w2.heap.size w2 W → Calls Tryz.prog 192 #[.agg #[.int .i64 M.v.log, .slice P.a P.n P.c, .int .u64 (M.v.floor : Int), .int .u64 (M.v.cert : Int), .int .u64 (M.v.at_ : Int), .int .u64 (M.v.lease : Int)], .agg #[.slice D dm dd, .slice A2 n2 c2, .int .i64 e.log, .int .u64 (e.floor : Int), .int .u64 (e.cert : Int), .int .u64 (e.at_ : Int), .int .u64 (e.lease : Int)]] W fun r W' => Below W.heap.size W W' ∧ ∃ Au nu cu, r = .returned (.tuple #[.agg #[.int .i64 uu.log, .slice Au nu cu, .int .u64 (uu.floor : Int), .int .u64 (uu.cert : Int), .int .u64 (uu.at_ : Int), .int .u64 (uu.lease : Int)], .bool okb]) ∧ (okb = true → Fresh W.heap.size W' Au nu cu uu.files) := fun W hW => by
   refine (apply_gen M.v P.a P.n P.c e D dm dd A2 n2 c2 W (by omega) (by omega) (by omega) ((h2.row.row.below hW).up hW.size) ((hrd2.below hW).up hW.size) ((hra2.below hW).up hW.size)).mono ?_
   rintro r W' ⟨hb, hr⟩
   refine ⟨hb, ?_⟩
   cases hva : M.v.app e with
   | none =>
    rw [hva] at hr hokb huu
    subst hokb huu
    exact ⟨none, 0, 0, hr, fun h => by cases h⟩
   | some u =>
    rw [hva] at hr hokb huu
    subst hokb huu
    obtain ⟨A3, N3, c3, hr, hf⟩ := hr
    exact ⟨A3, N3, c3, hr, fun _ => hf⟩
  have hok40 : okb = true → uu.files.length ≤ 40 := fun ho => by
   cases hva : M.v.app e with
   | none => rw [hokb, hva] at ho; cases ho
   | some u => rw [huu, hva]; exact Vw.app_few hva
  have HAP := Lib.hid hap
  have H40 := Lib.hid hok40
  clear hap hKC y0 y1 y2 y3 y4 y5 y6 hput b12 hb2 hokb huu hok40 hrd hra hrd1 hra1 hrd2 hra2 hbx hbx2 hV
  go_wp2
  refine wp_region_held_drew (S := fun w' => Below w2.heap.size w2 w') rfl (below_drew (Below.refl _ _)) (fun hSw => ?_)
  refine wpT (i := 0) (v := ?v0) ?h0 hSw ?k0
  case h0 => (intro w hSw; (obtain ⟨z2, z3, z4, z5, z6, z7, y0, y1, y2, y3, y4, y5, y6⟩ := KC.out w hSw); go_simp; try (with_reducible rfl))
  go_simp
  refine wpT (i := 1) (v := ?v1) ?h1 hSw ?k1
  case h1 => (intro w hSw; (obtain ⟨z2, z3, z4, z5, z6, z7, y0, y1, y2, y3, y4, y5, y6⟩ := KC.out w hSw); go_simp; try (with_reducible rfl))
  go_simp
  refine wpT (i := 2) (v := ?v2) ?h2 hSw ?k2
  case h2 => (intro w hSw; (obtain ⟨z2, z3, z4, z5, z6, z7, y0, y1, y2, y3, y4, y5, y6⟩ := KC.out w hSw); go_simp; try (with_reducible rfl))
  go_simp
  refine wpT (i := 3) (v := ?v3) ?h3 hSw ?k3
  case h3 => (intro w hSw; (obtain ⟨z2, z3, z4, z5, z6, z7, y0, y1, y2, y3, y4, y5, y6⟩ := KC.out w hSw); go_simp; try (with_reducible rfl))
  go_simp
  refine wpT (i := 4) (v := ?v4) ?h4 hSw ?k4
  case h4 => (intro w hSw; (obtain ⟨z2, z3, z4, z5, z6, z7, y0, y1, y2, y3, y4, y5, y6⟩ := KC.out w hSw); go_simp; try (with_reducible rfl))
  go_simp
  refine wpAnyH_ready (rs := [5, 9]) (by kernel_rfl) (by simp) ?_
  refine AllReadyH.cons rfl (fun K hK => ?_) (AllReadyH.cons rfl (fun K hK => ?_) AllReadyH.nil)
  case' refine_1 =>
   go_simp
   refine (HAP.out _ hSw).mono ?_
   rintro e5 w5 ⟨hb5, Au, nu, cu, rfl, hfr⟩
   go_simp
   refine hK.out _ _ (hSw.trans (hb5.mono hSw.size)) (fun hSn => ?_)
   clear hK K hSw
   have hSw := hSn
   clear hSn
   go_simp
   refine wpT (i := 6) (v := ?va6) ?ha6 hSw ?ka6
   case ha6 => (intro w hSw; (obtain ⟨z2, z3, z4, z5, z6, z7, y0, y1, y2, y3, y4, y5, y6⟩ := KC.out w hSw); go_simp; try (with_reducible rfl))
   go_simp
   refine wpT (i := 7) (v := ?va7) ?ha7 hSw ?ka7
   case ha7 => (intro w hSw; (obtain ⟨z2, z3, z4, z5, z6, z7, y0, y1, y2, y3, y4, y5, y6⟩ := KC.out w hSw); go_simp; try (with_reducible rfl))
   go_simp
   refine wpT (i := 8) (v := ?va8) ?ha8 hSw ?ka8
   case ha8 => (intro w hSw; (obtain ⟨z2, z3, z4, z5, z6, z7, y0, y1, y2, y3, y4, y5, y6⟩ := KC.out w hSw); go_simp; try (with_reducible rfl))
   go_simp
   have hS5 := Lib.hid hSw
   refine wpAnyH_ready (rs := [9]) (by kernel_rfl) (by simp) ?_
   refine AllReadyH.cons rfl (fun K hK => ?_) AllReadyH.nil
   go_simp
   refine hK.out _ _ (hSw.alloc hSw.size _) (fun hSn => ?_)
   clear hK K hSw
   have hSw := hSn
   clear hSn
   go_simp
   refine wpAnyH_ready (rs := [10]) (by kernel_rfl) (by simp) ?_
   refine AllReadyH.cons rfl (fun K hK => ?_) AllReadyH.nil
   go_simp
   refine hK.out _ _ (hS5.out.alloc hS5.out.size _) (fun hSn => ?_)
   clear hK K hSw
   have hSw := hSn
   clear hSn
   go_simp
   refine wpAnyH_ready (rs := [11]) (by kernel_rfl) (by simp) ?_
   refine AllReadyH.cons rfl (fun K hK => ?_) AllReadyH.nil
   go_simp
   refine hK.out _ _ hSw (fun hSn => ?_)
   clear hK K hSw
   have hSw := hSn
   clear hSn
   go_simp
   refine wpAnyH_done (by kernel_rfl) ?_ _
   have hbv : BoxO _ 134 w5.heap.size [.int .i64 uu.log, .slice Au nu cu, .int .u64 (uu.floor : Int), .int .u64 (uu.cert : Int), .int .u64 (uu.at_ : Int), .int .u64 (uu.lease : Int)] := BoxO.new w5 #[.int .i64 uu.log, .slice Au nu cu, .int .u64 (uu.floor : Int), .int .u64 (uu.cert : Int), .int .u64 (uu.at_ : Int), .int .u64 (uu.lease : Int)] 134
   have hgb : w2.heap.size ≤ w5.heap.size := hS5.out.size
   have hfrW : okb = true → Fresh w2.heap.size (w5.alloc (.cells #[.int .i64 uu.log, .slice Au nu cu, .int .u64 (uu.floor : Int), .int .u64 (uu.cert : Int), .int .u64 (uu.at_ : Int), .int .u64 (uu.lease : Int)] 134)) Au nu cu uu.files := fun ho => ((hfr ho).base (Nat.le_refl _)).below ((Below.refl _ _).alloc (Nat.le_refl _) _)
   generalize w5.heap.size = gb at *
   generalize w5.alloc (.cells #[.int .i64 uu.log, .slice Au nu cu, .int .u64 (uu.floor : Int), .int .u64 (uu.cert : Int), .int .u64 (uu.at_ : Int), .int .u64 (uu.lease : Int)] 134) = W at *
   clear hS5 hb5 hfr w5
  case' refine_2 =>
   go_simp
   refine hK.out _ _ (hSw.alloc hSw.size _) (fun hSn => ?_)
   clear hK K hSw
   have hSw := hSn
   clear hSn
   go_simp
   refine wpAnyH_ready (rs := [5]) (by kernel_rfl) (by simp) ?_
   refine AllReadyH.cons rfl (fun K hK => ?_) AllReadyH.nil
   have hbz : BoxO (w2.drew.alloc (.cells #[.int .i64 0, .slice none 0 0, .int .u64 0, .int .u64 0, .int .u64 0, .int .u64 0] 134)) 134 w2.heap.size [.int .i64 0, .slice none 0 0, .int .u64 0, .int .u64 0, .int .u64 0, .int .u64 0] := BoxO.new w2.drew #[.int .i64 0, .slice none 0 0, .int .u64 0, .int .u64 0, .int .u64 0, .int .u64 0] 134
   go_simp
   refine (HAP.out _ hSw).mono ?_
   rintro e5 w5 ⟨hb5, Au, nu, cu, rfl, hfr⟩
   have hbz5 := hbz.below hb5
   go_simp
   refine hK.out _ _ (hSw.trans (hb5.mono hSw.size)) (fun hSn => ?_)
   clear hK K hSw
   have hSw := hSn
   clear hSn
   go_simp
   refine wpT (i := 6) (v := ?vb6) ?hb6 hSw ?kb6
   case hb6 => (intro w hSw; (obtain ⟨z2, z3, z4, z5, z6, z7, y0, y1, y2, y3, y4, y5, y6⟩ := KC.out w hSw); go_simp; try (with_reducible rfl))
   go_simp
   refine wpT (i := 7) (v := ?vb7) ?hb7 hSw ?kb7
   case hb7 => (intro w hSw; (obtain ⟨z2, z3, z4, z5, z6, z7, y0, y1, y2, y3, y4, y5, y6⟩ := KC.out w hSw); go_simp; try (with_reducible rfl))
   go_simp
   refine wpT (i := 8) (v := ?vb8) ?hb8 hSw ?kb8
   case hb8 => (intro w hSw; (obtain ⟨z2, z3, z4, z5, z6, z7, y0, y1, y2, y3, y4, y5, y6⟩ := KC.out w hSw); go_simp; try (with_reducible rfl))
   go_simp
   have g0 := hbz5.cell 0
   have f0 := hbz5.free 0
   have g1 := hbz5.cell 1
   have f1 := hbz5.free 1
   have g2 := hbz5.cell 2
   have f2 := hbz5.free 2
   have g3 := hbz5.cell 3
   have f3 := hbz5.free 3
   have g4 := hbz5.cell 4
   have f4 := hbz5.free 4
   have g5 := hbz5.cell 5
   have f5 := hbz5.free 5
   simp only [gE0, gE1] at g0 g1 g2 g3 g4 g5
   refine wpAnyH_ready (rs := [10]) (by kernel_rfl) (by simp) ?_
   refine AllReadyH.cons rfl (fun K hK => ?_) AllReadyH.nil
   go_simp
   have hbv := ((((((hbz5.store 0 (.int .i64 uu.log)).store 1 (.slice Au nu cu)).store 2 (.int .u64 (uu.floor : Int))).store 3 (.int .u64 (uu.cert : Int))).store 4 (.int .u64 (uu.at_ : Int))).store 5 (.int .u64 (uu.lease : Int)))
   have hCz := (((((((Chg.refl [w2.heap.size] w5).setCell (p := ⟨w2.heap.size, 0, none⟩) (.int .i64 uu.log) (.inl (by simp))).setCell (p := ⟨w2.heap.size, 1, none⟩) (.slice Au nu cu) (.inl (by simp))).setCell (p := ⟨w2.heap.size, 2, none⟩) (.int .u64 (uu.floor : Int)) (.inl (by simp))).setCell (p := ⟨w2.heap.size, 3, none⟩) (.int .u64 (uu.cert : Int)) (.inl (by simp))).setCell (p := ⟨w2.heap.size, 4, none⟩) (.int .u64 (uu.at_ : Int)) (.inl (by simp))).setCell (p := ⟨w2.heap.size, 5, none⟩) (.int .u64 (uu.lease : Int)) (.inl (by simp)))
   refine hK.out _ _ ((((((hSw.setCell (p := ⟨w2.heap.size, 0, none⟩) (Nat.le_refl _) _).setCell (p := ⟨w2.heap.size, 1, none⟩) (Nat.le_refl _) _).setCell (p := ⟨w2.heap.size, 2, none⟩) (Nat.le_refl _) _).setCell (p := ⟨w2.heap.size, 3, none⟩) (Nat.le_refl _) _).setCell (p := ⟨w2.heap.size, 4, none⟩) (Nat.le_refl _) _).setCell (p := ⟨w2.heap.size, 5, none⟩) (Nat.le_refl _) _) (fun hSn => ?_)
   clear g0 g1 g2 g3 g4 g5 f0 f1 f2 f3 f4 f5
   clear hK K hSw
   have hSw := hSn
   clear hSn
   go_simp
   refine wpAnyH_ready (rs := [11]) (by kernel_rfl) (by simp) ?_
   refine AllReadyH.cons rfl (fun K hK => ?_) AllReadyH.nil
   go_simp
   refine hK.out _ _ hSw (fun hSn => ?_)
   clear hK K hSw
   have hSw := hSn
   clear hSn
   go_simp
   refine wpAnyH_done (by kernel_rfl) ?_ _
   have hbv : BoxO _ 134 w2.heap.size [.int .i64 uu.log, .slice Au nu cu, .int .u64 (uu.floor : Int), .int .u64 (uu.cert : Int), .int .u64 (uu.at_ : Int), .int .u64 (uu.lease : Int)] := hbv
   have hfrW : okb = true → Fresh w2.heap.size ((((((w5.setCell ⟨w2.heap.size, 0, none⟩ (.int .i64 uu.log)).setCell ⟨w2.heap.size, 1, none⟩ (.slice Au nu cu)).setCell ⟨w2.heap.size, 2, none⟩ (.int .u64 (uu.floor : Int))).setCell ⟨w2.heap.size, 3, none⟩ (.int .u64 (uu.cert : Int))).setCell ⟨w2.heap.size, 4, none⟩ (.int .u64 (uu.at_ : Int))).setCell ⟨w2.heap.size, 5, none⟩ (.int .u64 (uu.lease : Int))) Au nu cu uu.files := fun ho => ((hfr ho).chg hCz (fun a ha hm => by have := (hfr ho).low a ha; simp at hm this; omega)).base (by simp)
   obtain ⟨gb, hgb0, hgb⟩ : ∃ g, g = w2.heap.size ∧ w2.heap.size ≤ g := ⟨_, rfl, Nat.le_refl _⟩
   generalize ((((((w5.setCell ⟨w2.heap.size, 0, none⟩ (.int .i64 uu.log)).setCell ⟨w2.heap.size, 1, none⟩ (.slice Au nu cu)).setCell ⟨w2.heap.size, 2, none⟩ (.int .u64 (uu.floor : Int))).setCell ⟨w2.heap.size, 3, none⟩ (.int .u64 (uu.cert : Int))).setCell ⟨w2.heap.size, 4, none⟩ (.int .u64 (uu.at_ : Int))).setCell ⟨w2.heap.size, 5, none⟩ (.int .u64 (uu.lease : Int))) = W at *
   clear hbz5 hbz hb5 hCz hfr w5
   rw [← hgb0] at hbv ⊢
   clear hgb0
  all_goals
   have h3 := h2.below hSw
   have hfr3 := hfrW
   have hm2lt := h2.man.lt
   have hdk2 := h2.acc.dm.dk
   have hrow := Lib.hid ((((Row.own hown).below hSw)).arg (B := w2.heap.size) hSw.size)
   have hA : ∀ a, A = some a → a.block ∉ X.foot := fun a ha hm => by
    obtain ⟨A', c', e', _, _, h6⟩ := own_form hown
    injection e' with e' _ _
    have h7 := (h6 a (by rw [← e']; exact ha)).1
    have h8 := h1.acc.dm.dk.lt _ hm
    omega
   have hKl : K ≤ 1099511627776 := by
    have e1 := (Row.own hown).btlen
    omega
   have hmgb : ¬ m = gb := by omega
   have hgbX : gb ∉ [m] ++ X.foot := fun hm => by
    rcases List.mem_append.1 hm with h5 | h5
    ·exact hmgb (List.mem_singleton.1 h5).symm
    ·have := hdk2.lt _ h5
     omega
   have hS2 := hSw.size
   clear hSw hfrW HAP h2
   cases okb with
   | false =>
    have hh : R = (S, M, 1) := HTT.out.trans (if_neg (by simp))
    have hl := Lib.hid (GLeft.mk_ hh h3)
    clear hh hbv h3 KC hfr3 hrow hA
    go_wp2
    go_ret
    exact hl.out
   | true =>
   have HT1 := HTT.out.trans (if_pos rfl)
   have hfr4 := hfr3 rfl
   have hu40 := H40.out rfl
   have HT1H := Lib.hid HT1
   clear HTT HT1 hfr3 H40
   have h4 := (h3.below (below_drew (Below.refl _ _))).anew
   have hbx5 : BoxO W.drew 134 gb [.int .i64 uu.log, .slice Au nu cu, .int .u64 (uu.floor : Int), .int .u64 (uu.cert : Int), .int .u64 (uu.at_ : Int), .int .u64 (uu.lease : Int)] := hbv
   have hap := h4.append (str M.name) (by rw [str_size]; unfold maxLen; omega) A K c e.rec_ hKl hrow.out.drew hA
   rw [list_str] at hap
   have HAP := Lib.hid hap
   have d0 := h3.man.cell 0
   have d1 := h3.man.cell 1
   simp only [Gs.cells, gE0, gE1] at d0 d1
   have HB5 := Lib.hid hbx5
   have HGX := Lib.hid hgbX
   have hfrD : Fresh w2.heap.size W.drew Au nu cu uu.files := hfr4.below (below_drew (Below.refl _ _))
   have HFR := Lib.hid hfrD
   have HT2 : Hid (R = if (S.append M.name e.rec_).2 ≠ 0 then ((S.append M.name e.rec_).1, M, (S.append M.name e.rec_).2) else if ((S.append M.name e.rec_).1.sync M.name).2 ≠ 0 then (((S.append M.name e.rec_).1.sync M.name).1, { M with count := M.count + 1, v := uu, broken := true }, ((S.append M.name e.rec_).1.sync M.name).2) else (((S.append M.name e.rec_).1.sync M.name).1, { M with count := M.count + 1, v := uu }, 0)) := HT1H.out
   have hmlt4 := h4.man.lt
   have hfl := hfr4.row.flen
   clear hap hown hA hKl hrow hbv hbe hbel0 hbx5 hgbX KC hfr4 hfrD HT1H
   generalize S.append M.name e.rec_ = PP at *
   obtain ⟨S1, e1⟩ := PP
   simp only at HT2
   go_wp2
   go_still_tail 9, (by kernel_rfl)
   change wpList _ _ _ _ _ (World.drew W)
   go_wp2_with fail
   refine HAP.out.mono ?_
   rintro e6 w6 ⟨rfl, X6, h6⟩
   by_cases q1 : e1 = 0
   case neg =>
    have hne := neq0 q1
    have hh := HT2.out
    rw [if_pos q1] at hh
    have hl := Lib.hid (GLeft.mk_ hh ((h3.below (below_drew (Below.refl _ _))).trans h6))
    clear hh
    go_wp2
    go_ret
    exact hl.out
   subst q1
   have HT3 : Hid (R = if (S1.sync M.name).2 ≠ 0 then ((S1.sync M.name).1, { M with count := M.count + 1, v := uu, broken := true }, (S1.sync M.name).2) else ((S1.sync M.name).1, { M with count := M.count + 1, v := uu }, 0)) := HT2.out.trans (if_neg (by simp))
   have hbx6 := HB5.out.chg h6.acc.c HGX.out
   have hrow6 : Row w6.heap.size w6 Au nu 2 (fcells uu.files) := by
    refine (row_chg h6.acc.c HFR.out.row (Nat.le_refl _) (fun j hj a ha hm => ?_)).up h6.acc.c.size
    have h7 := HFR.out.low a ha
    rcases List.mem_append.1 hm with h5 | h5
    ·have := List.mem_singleton.1 h5
     omega
    ·have := hdk2.lt _ h5
     omega
   have hvr6 : Vrow w6 X6 m ⟨Au, nu, cu⟩ uu.files := by
    refine ⟨hrow6, HFR.out.nc, HFR.out.cm, by simp only; omega, fun j hj a ha => ?_⟩
    have h7 := HFR.out.low a ha
    have h8 := row_lt HFR.out.row hj ha
    refine ⟨by omega, fun hm => ?_⟩
    rcases h6.acc.f _ hm with h9 | h9
    ·have := hdk2.lt _ h9
     omega
    ·omega
   have hlow : ∀ a, (⟨Au, nu, cu⟩ : Sl).a = some a → w.heap.size ≤ a.block := fun a ha => by
    have h7 := HFR.out.low a ha
    omega
   have HLOW := Lib.hid hlow
   clear hlow
   have x0 := hbx6.cell 0
   have x1 := hbx6.cell 1
   have x2 := hbx6.cell 2
   have x3 := hbx6.cell 3
   have x4 := hbx6.cell 4
   have x5 := hbx6.cell 5
   have d2 := h6.man.cell 2
   have d3 := h6.man.cell 3
   have d4 := h6.man.cell 4
   have d5 := h6.man.cell 5
   have d6 := h6.man.cell 6
   have d7 := h6.man.cell 7
   have d8 := h6.man.cell 8
   have f2 := h6.man.free 2
   have f3 := h6.man.free 3
   have f4 := h6.man.free 4
   have f5 := h6.man.free 5
   have f6 := h6.man.free 6
   have f7 := h6.man.free 7
   have f8 := h6.man.free 8
   simp only [Gs.cells, gE0, gE1] at x0 x1 x2 x3 x4 x5 d2 d3 d4 d5 d6 d7 d8
   have hmk : GK (((((((w6.setCell ⟨m, 8, none⟩ (.int .i64 ((M.count : Int) + 1))).setCell ⟨m, 2, none⟩ (.int .i64 uu.log)).setCell ⟨m, 3, none⟩ (.slice Au nu cu)).setCell ⟨m, 4, none⟩ (.int .u64 (uu.floor : Int))).setCell ⟨m, 5, none⟩ (.int .u64 (uu.cert : Int))).setCell ⟨m, 6, none⟩ (.int .u64 (uu.at_ : Int))).setCell ⟨m, 7, none⟩ (.int .u64 (uu.lease : Int))) m X.d { M with count := M.count + 1, v := uu } ⟨Au, nu, cu⟩ := (((((((h6.man.store 8 (.int .i64 ((M.count : Int) + 1))).store 2 (.int .i64 uu.log)).store 3 (.slice Au nu cu)).store 4 (.int .u64 (uu.floor : Int))).store 5 (.int .u64 (uu.cert : Int))).store 6 (.int .u64 (uu.at_ : Int))).store 7 (.int .u64 (uu.lease : Int)))
   have hcm6 : Chg [m] w6 (((((((w6.setCell ⟨m, 8, none⟩ (.int .i64 ((M.count : Int) + 1))).setCell ⟨m, 2, none⟩ (.int .i64 uu.log)).setCell ⟨m, 3, none⟩ (.slice Au nu cu)).setCell ⟨m, 4, none⟩ (.int .u64 (uu.floor : Int))).setCell ⟨m, 5, none⟩ (.int .u64 (uu.cert : Int))).setCell ⟨m, 6, none⟩ (.int .u64 (uu.at_ : Int))).setCell ⟨m, 7, none⟩ (.int .u64 (uu.lease : Int))) := ((((((((Chg.refl [m] w6).setCell _ (.inl (by simp))).setCell _ (.inl (by simp))).setCell _ (.inl (by simp))).setCell _ (.inl (by simp))).setCell _ (.inl (by simp))).setCell _ (.inl (by simp))).setCell _ (.inl (by simp)))
   have h7 := Lib.hid (((h3.below (below_drew (Below.refl _ _))).trans h6).turnV hcm6 hmk (hvr6.turn hcm6))
   clear hmk hcm6 hbx6 h6 HAP h4 h3 HB5 HGX hvr6 hrow6 HFR
   have D0 := h7.out.man.cell 0
   have D1 := h7.out.man.cell 1
   simp only [Gs.cells, gE0, gE1] at D0 D1
   go_wp2
   generalize (((((((w6.setCell ⟨m, 8, none⟩ (.int .i64 ((M.count : Int) + 1))).setCell ⟨m, 2, none⟩ (.int .i64 uu.log)).setCell ⟨m, 3, none⟩ (.slice Au nu cu)).setCell ⟨m, 4, none⟩ (.int .u64 (uu.floor : Int))).setCell ⟨m, 5, none⟩ (.int .u64 (uu.cert : Int))).setCell ⟨m, 6, none⟩ (.int .u64 (uu.at_ : Int))).setCell ⟨m, 7, none⟩ (.int .u64 (uu.lease : Int))) = V7 at *
   clear x0 x1 x2 x3 x4 x5 d2 d3 d4 d5 d6 d7 d8 f2 f3 f4 f5 f6 f7 f8 d0 d1
   have h8 := h7.out.below (below_drew (Below.refl _ _))
   have hsy := h8.sync (str M.name) (by rw [str_size]; unfold maxLen; omega)
   rw [list_str] at hsy
   have HSY := Lib.hid hsy
   clear hsy h8
   generalize S1.sync M.name = PP at *
   obtain ⟨S2, e2⟩ := PP
   go_still_tail 8, (by kernel_rfl)
   change wpList _ _ _ _ _ (World.drew V7)
   go_wp2_with fail
   refine HSY.out.mono ?_
   rintro e9 w9 ⟨rfl, X9, h9⟩
   by_cases q2 : e2 = 0
   case neg =>
    have hne := neq0 q2
    have hh : R = (S2, { M with count := M.count + 1, v := uu, broken := true }, e2) := HT3.out.trans (if_pos q2)
    have HH := Lib.hid hh
    clear hh
    go_wp2_with fail
    refine h9.break_.mono ?_
    rintro e10 w10 ⟨rfl, h10⟩
    have hl := Lib.hid (GLeft.mkN (P0 := P) HH.out h10 HLOW.out)
    go_wp2
    go_ret
    exact hl.out
   subst q2
   have hl := Lib.hid (GLeft.mkN (P0 := P) (HT3.out.trans (if_neg (by simp))) h9 HLOW.out)
   go_wp2
   go_ret
   exact hl.out
end
section
open Go Go.RowKit Go.Lib Go.Shelf
abbrev Tq := ((Int × Int) × List (List It)) × Nat
structure Yw where
 s : Nat
 m : Nat
 g : Nat
 mm : Nat
 L : Nat
 ns : List Nd
 P : Sl
 T : Sl
 A : Sl
 q : List Tq
def Yw.foot (Y : Yw) : List Nat := Y.s :: Y.m :: Y.g :: Y.mm :: skF Y.L Y.ns
def Yw.cells (Y : Yw) (xd : Nat) (V : Sv) : List Value := [.pointer (some ⟨xd, 0, none⟩), .pointer (some ⟨Y.m, 0, none⟩), .pointer (some ⟨Y.g, 0, none⟩), .pointer (some ⟨Y.mm, 0, none⟩), .slice Y.T.a Y.T.n Y.T.c, .slice Y.A.a Y.A.n Y.A.c, .int .i64 (Y.A.n : Int), .int .u32 (if V.only = true then 1 else 0), .int .i32 0, .int .u32 0, .bool V.only]
def hcells (q : List Tq) : List Value := q.flatMap fun p => [.int .i64 p.1.1.1, .int .i64 p.1.1.2, .pointer (some ⟨p.2, 0, none⟩)]
def TabsAt (w : World) (T : Sl) (q : List Tq) (ts : List ((Int × Int) × List (List It))) : Prop := q.map (·.1) = ts ∧ Row w.heap.size w T.a T.n 3 (hcells q) ∧ T.n ≤ T.c ∧ T.c ≤ maxLen ∧ (T.a = none → T.n = 0 ∧ T.c = 0) ∧ ∀ p ∈ q, TbAt w p.2 p.1.2
theorem hcells_length (q : List Tq) : (hcells q).length = q.length * 3 := by
 induction q with
 | nil => rfl
 | cons p q ih =>
  unfold hcells at ih ⊢
  rw [List.flatMap_cons, List.length_append, ih, List.length_cons]
  simp only [List.length_cons, List.length_nil]
  omega
theorem TabsAt.len {w : World} {T : Sl} {q : List Tq} {ts : List ((Int × Int) × List (List It))} (h : TabsAt w T q ts) : T.n = ts.length := by
 obtain ⟨rfl, h1, _⟩ := h
 have := h1.len
 rw [hcells_length] at this
 rw [List.length_map]
 omega
structure Yw.Apart (X : Dw) (Y : Yw) : Prop where
 x : ∀ g ∈ Y.foot, g ∉ X.foot
 s : Y.s ∉ Y.m :: Y.g :: Y.mm :: skF Y.L Y.ns
 m : Y.m ∉ Y.g :: Y.mm :: skF Y.L Y.ns
 g : Y.g ∉ Y.mm :: skF Y.L Y.ns
abbrev XY (X : Dw) (Y : Yw) : List Nat := X.foot ++ Y.foot
structure SvAt (w : World) (X : Dw) (S : Sd) (Y : Yw) (V : Sv) : Prop where
 dm : Dm w X S
 box : BoxO w 90 Y.s (Y.cells X.d V)
 man : GK w Y.m X.d V.M Y.P
 row : Vrow w X Y.m Y.P V.M.v.files
 pout : ∀ j, j < (fcells V.M.v.files).length → ∀ a, Y.P.a = some a → a.block ∉ Y.foot
 log : LgAt w Y.g X.d V.nm V.sz V.ct
 mem : MmAt w Y.mm Y.L Y.ns
 its : its Y.ns = V.mem
 tabs : Fixed (XY X Y) w fun w => TabsAt w Y.T Y.q V.tabs
 st : Fixed (XY X Y) w fun w => Its 0 w Y.A.a Y.A.n Y.A.c V.st
 apart : Y.Apart X
 ng : ∀ g ∈ Y.foot, NG ≤ g
variable {w w1 w2 : World} {X X1 X2 : Dw} {S S1 S2 : Sd} {Y Y1 Y2 : Yw} {V V1 V2 : Sv}
theorem Yw.mem_foot {g : Nat} : g ∈ Y.foot ↔ g = Y.s ∨ g = Y.m ∨ g = Y.g ∨ g = Y.mm ∨ g ∈ skF Y.L Y.ns := by simp [Yw.foot]
theorem MmAt.lt {w : World} {m L : Nat} {ns : List Nd} (h : MmAt w m L ns) : ∀ g ∈ m :: skF L ns, g < w.heap.size := by
 intro g hg
 rcases List.mem_cons.1 hg with rfl | hg
 ·obtain ⟨_, hb⟩ := h.box
  exact hb.lt
 ·exact h.sk.lt g hg
theorem SvAt.ylt (h : SvAt w X S Y V) : ∀ g ∈ Y.foot, g < w.heap.size := by
 intro g hg
 rcases Yw.mem_foot.1 hg with rfl | rfl | rfl | rfl | h1
 ·exact h.box.lt
 ·exact h.man.lt
 ·exact h.log.lt
 ·exact h.mem.lt _ List.mem_cons_self
 ·exact h.mem.lt _ (List.mem_cons_of_mem _ h1)
theorem SvAt.lt (h : SvAt w X S Y V) : ∀ g ∈ XY X Y, g < w.heap.size := by
 intro g hg
 rcases List.mem_append.1 hg with h1 | h1
 ·exact h.dm.dk.lt g h1
 ·exact h.ylt g h1
theorem SvAt.alen (h : SvAt w X S Y V) : Y.A.n = V.st.length := h.st.now.row.itlen.symm
theorem SvAt.plen (h : SvAt w X S Y V) : Y.P.n = V.M.v.files.length := by
 have := h.row.row.len
 unfold fcells at this
 have e : ∀ l : List (Int × Int), (l.flatMap fun f => [Value.int .i64 f.1, Value.int .i64 f.2]).length = l.length * 2 := fun l => by
  induction l with
  | nil => rfl
  | cons a l ih => rw [List.flatMap_cons, List.length_append, ih, List.length_cons]; simp only [List.length_cons, List.length_nil]; omega
 rw [e] at this
 omega
theorem SvAt.chg {G : List Nat} (h : SvAt w X S Y V) (c : Chg G w w1) (hG : ∀ g ∈ G, g ∉ XY X Y ∧ NG ≤ g) (hP : ∀ a, Y.P.a = some a → a.block ∉ G) (ht : Fixed (XY X Y) w1 fun w => TabsAt w Y.T Y.q V.tabs) (hs : Fixed (XY X Y) w1 fun w => Its 0 w Y.A.a Y.A.n Y.A.c V.st) : SvAt w1 X S Y V := by
 have hn : ∀ g ∈ Y.foot, g ∉ G := fun g h1 h2 => (hG g h2).1 (List.mem_append_right _ h1)
 refine ⟨h.dm.chg c (fun g hg => ⟨fun hm => (hG g hg).1 (List.mem_append_left _ hm), (hG g hg).2⟩), h.box.chg c (hn _ (Yw.mem_foot.2 (.inl rfl))), h.man.chg c (hn _ (Yw.mem_foot.2 (.inr (.inl rfl)))), ?_, h.pout, h.log.chg c (hn _ (Yw.mem_foot.2 (.inr (.inr (.inl rfl))))), h.mem.chg c (fun g hg => hn g (Yw.mem_foot.2 ?_)), h.its, ht, hs, h.apart, h.ng⟩
 ·exact ⟨(row_chg c h.row.row (Nat.le_refl _) (fun j hj a ha => hP a ha)).up c.size, h.row.nc, h.row.cm, h.row.nb, h.row.away⟩
 ·rcases List.mem_cons.1 hg with rfl | hg
  ·exact .inr (.inr (.inr (.inl rfl)))
  ·exact .inr (.inr (.inr (.inr hg)))
theorem SvAt.below (h : SvAt w X S Y V) (hb : Below w.heap.size w w1) : SvAt w1 X S Y V :=
 h.chg (G := []) (Chg.of_below hb []) (fun g hg => by cases hg) (fun a _ hm => by cases hm) (h.tabs.below hb) (h.st.below hb)
def SvUpd (X : Dw) (Y : Yw) (w w1 : World) (S1 : Sd) (V1 : Sv) : Prop := ∃ X1 Y1, X1.d = X.d ∧ Y1.s = Y.s ∧ SvAt w1 X1 S1 Y1 V1 ∧ Chg (XY X Y) w w1 ∧ ∀ g ∈ XY X1 Y1, g ∈ XY X Y ∨ w.heap.size ≤ g
theorem SvUpd.refl (h : SvAt w X S Y V) : SvUpd X Y w w S V := ⟨X, Y, rfl, rfl, h, Chg.refl _ _, fun _ hg => .inl hg⟩
theorem SvUpd.same (h : SvAt w X S Y V) (hb : Below w.heap.size w w1) : SvUpd X Y w w1 S V := ⟨X, Y, rfl, rfl, h.below hb, Chg.of_below hb _, fun _ hg => .inl hg⟩
theorem SvUpd.trans (e1 : X1.d = X.d) (e2 : Y1.s = Y.s) (c : Chg (XY X Y) w w1) (hf : ∀ g ∈ XY X1 Y1, g ∈ XY X Y ∨ w.heap.size ≤ g) (k : SvUpd X1 Y1 w1 w2 S2 V2) : SvUpd X Y w w2 S2 V2 := by
 obtain ⟨X2, Y2, e3, e4, h, c2, hf2⟩ := k
 refine ⟨X2, Y2, e3.trans e1, e4.trans e2, h, c.trans c2 hf, fun g hg => ?_⟩
 rcases hf2 g hg with h1 | h1
 ·exact hf g h1
 ·exact .inr (Nat.le_trans c.size h1)
theorem SvAt.disk (h : SvAt w X S Y V) (hu : UpdM X w w1 S1) : ∃ X1, X1.d = X.d ∧ SvAt w1 X1 S1 Y V ∧ Chg (XY X Y) w w1 ∧ (∀ g ∈ XY X1 Y, g ∈ XY X Y ∨ w.heap.size ≤ g) := by
 obtain ⟨X1, e, hd, c, hf⟩ := hu
 have hn : ∀ g ∈ Y.foot, g ∉ X.foot := h.apart.x
 have hc2 : Chg (XY X Y) w w1 := c.mono fun g hg => .inl (List.mem_append_left _ hg)
 have hf2 : ∀ g ∈ XY X1 Y, g ∈ XY X Y ∨ w.heap.size ≤ g := fun g hg => by
  rcases List.mem_append.1 hg with h1 | h1
  ·rcases hf g h1 with h2 | h2
   ·exact .inl (List.mem_append_left _ h2)
   ·exact .inr h2
  ·exact .inl (List.mem_append_right _ h1)
 refine ⟨X1, e, ⟨hd, by rw [e]; exact h.box.chg c (hn _ (Yw.mem_foot.2 (.inl rfl))), by rw [e]; exact h.man.chg c (hn _ (Yw.mem_foot.2 (.inr (.inl rfl)))), h.row.step c hf, h.pout, by rw [e]; exact h.log.chg c (hn _ (Yw.mem_foot.2 (.inr (.inr (.inl rfl))))), h.mem.chg c (fun g hg => hn g (Yw.mem_foot.2 ?_)), h.its, h.tabs.step hc2 hf2, h.st.step hc2 hf2, ⟨fun g hg hm => ?_, h.apart.s, h.apart.m, h.apart.g⟩, h.ng⟩, hc2, hf2⟩
 ·rcases List.mem_cons.1 hg with rfl | hg
  ·exact .inr (.inr (.inr (.inl rfl)))
  ·exact .inr (.inr (.inr (.inr hg)))
 ·rcases hf g hm with h1 | h1
  ·exact hn g hg h1
  ·have := h.ylt g hg
   omega
theorem SvAt.mAway (h : SvAt w X S Y V) : Y.m ∉ X.foot := h.apart.x _ (Yw.mem_foot.2 (.inr (.inl rfl)))
theorem SvAt.gst (h : SvAt w X S Y V) : Gst Y.P Y.m X w S V.M w X := Gst.start h.dm h.man h.row h.mAway (h.ng _ (Yw.mem_foot.2 (.inr (.inl rfl))))
theorem SvAt.gleft (h : SvAt w X S Y V) {M1 : Gs} {P1 : Sl} (k : Gst P1 Y.m X w S1 M1 w1 X1) (hP : P1 = Y.P ∨ ∀ a, P1.a = some a → w.heap.size ≤ a.block) : SvAt w1 X1 S1 { Y with P := P1 } { V with M := M1 } ∧ Chg (XY X Y) w w1 ∧ ∀ g ∈ XY X1 { Y with P := P1 }, g ∈ XY X Y ∨ w.heap.size ≤ g := by
 have hn : ∀ g ∈ Y.foot, g ∉ X.foot := h.apart.x
 have e := k.acc.e
 have hf := k.acc.f
 have c : Chg ([Y.m] ++ X.foot) w w1 := k.acc.c
 have hc2 : Chg (XY X Y) w w1 := c.mono fun g hg => .inl (by
  rcases List.mem_append.1 hg with h1 | h1
  ·rw [List.mem_singleton.1 h1]
   exact List.mem_append_right _ (Yw.mem_foot.2 (.inr (.inl rfl)))
  ·exact List.mem_append_left _ h1)
 have hf2 : ∀ g ∈ XY X1 Y, g ∈ XY X Y ∨ w.heap.size ≤ g := fun g hg => by
  rcases List.mem_append.1 hg with h1 | h1
  ·rcases hf g h1 with h2 | h2
   ·exact .inl (List.mem_append_left _ h2)
   ·exact .inr h2
  ·exact .inl (List.mem_append_right _ h1)
 have hm : ∀ g ∈ Y.foot, g ≠ Y.m → g ∉ [Y.m] ++ X.foot := fun g hg hne hmm => by
  rcases List.mem_append.1 hmm with h1 | h1
  ·exact hne (List.mem_singleton.1 h1)
  ·exact hn g hg h1
 have aps := h.apart.s
 have am := h.apart.m
 refine ⟨⟨k.acc.dm, by rw [e]; exact h.box.chg c (hm _ (Yw.mem_foot.2 (.inl rfl)) (fun e => aps (by rw [e]; exact List.mem_cons_self))), by rw [e]; exact k.man, k.row, fun j hj a ha => ?_, by rw [e]; exact h.log.chg c (hm _ (Yw.mem_foot.2 (.inr (.inr (.inl rfl)))) (fun e => am (by rw [← e]; exact List.mem_cons_self))), h.mem.chg c (fun g hg => hm g (Yw.mem_foot.2 ?_) (fun e => am (by rw [← e]; exact List.mem_cons_of_mem _ hg))), h.its, h.tabs.step hc2 hf2, h.st.step hc2 hf2, ⟨fun g hg hmm => ?_, aps, am, h.apart.g⟩, h.ng⟩, hc2, hf2⟩
 ·rcases hP with rfl | hP
  ·refine h.pout j ?_ a ha
   have l1 := k.row.row.len
   have l2 := h.row.row.len
   rw [l2, ← l1]
   exact hj
  ·intro hmm
   have := h.ylt _ hmm
   have := hP a ha
   omega
 ·rcases List.mem_cons.1 hg with rfl | hg
  ·exact .inr (.inr (.inr (.inl rfl)))
  ·exact .inr (.inr (.inr (.inr hg)))
 ·rcases hf g hmm with h1 | h1
  ·exact hn g hg h1
  ·have := h.ylt g hg
   omega
theorem SvAt.sbox (h : SvAt w X S Y V) (c : Chg [Y.s] w w1) (hx : BoxO w1 90 Y.s (Y1.cells X.d V1)) (e1 : Y1 = { Y with A := Y1.A }) (e2 : V1 = { V with only := V1.only, st := V1.st }) (hs : Fixed (XY X Y) w1 fun w => Its 0 w Y1.A.a Y1.A.n Y1.A.c V1.st) : SvAt w1 X S Y1 V1 ∧ Chg (XY X Y) w w1 := by
 have hc2 : Chg (XY X Y) w w1 := c.mono fun g hg => .inl (by
  rw [List.mem_singleton.1 hg]
  exact List.mem_append_right _ (Yw.mem_foot.2 (.inl rfl)))
 have hm : ∀ g ∈ Y.m :: Y.g :: Y.mm :: skF Y.L Y.ns, g ∉ [Y.s] := fun g hg hmm => h.apart.s (by rw [← List.mem_singleton.1 hmm]; exact hg)
 obtain ⟨A1, ho, hs1, hv⟩ : ∃ A1 : Sl, ∃ b : Bool, ∃ l : List It, A1 = Y1.A ∧ b = V1.only ∧ l = V1.st := ⟨_, _, _, rfl, rfl, rfl⟩
 obtain ⟨q1, q2, q3⟩ := hv
 rw [← q1] at e1
 rw [← q2, ← q3] at e2
 subst e1 e2
 refine ⟨⟨h.dm.chg c (fun g hg => by rw [List.mem_singleton.1 hg]; exact ⟨h.apart.x _ (Yw.mem_foot.2 (.inl rfl)), h.ng _ (Yw.mem_foot.2 (.inl rfl))⟩), hx, h.man.chg c (hm _ List.mem_cons_self), ?_, h.pout, h.log.chg c (hm _ (List.mem_cons_of_mem _ List.mem_cons_self)), h.mem.chg c (fun g hg => hm _ (List.mem_cons_of_mem _ (List.mem_cons_of_mem _ hg))), h.its, h.tabs.step hc2 (fun g hg => .inl hg), hs, ⟨h.apart.x, h.apart.s, h.apart.m, h.apart.g⟩, h.ng⟩, hc2⟩
 exact ⟨(row_chg c h.row.row (Nat.le_refl _) (fun j hj a ha hmm => h.pout j hj a ha (by rw [List.mem_singleton.1 hmm]; exact Yw.mem_foot.2 (.inl rfl)))).up c.size, h.row.nc, h.row.cm, h.row.nb, h.row.away⟩
end
end Go.Proofs.YtdkjoigpahafmaaGreatDoor
