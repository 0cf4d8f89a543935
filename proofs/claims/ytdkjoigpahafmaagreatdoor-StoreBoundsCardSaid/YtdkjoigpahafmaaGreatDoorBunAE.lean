/- Texts PlainItem, PlainRows, PlainBytes, PlainTable, PlainStore, Flat, Items, ItemA, PlainSkip, SkipA in one. No conditions. -/
import Derived.Below
import Derived.Test.YtdkjoigpahafmaaGreatDoorBunAC
import Derived.Test.YtdkjoigpahafmaaGreatDoorBunAD
import Derived.Test.YtdkjoigpahafmaaGreatDoorBunAA
import Derived.Test.YtdkjoigpahafmaaGreatDoorRows
import Derived.BigQuiet
import Derived.Lib.Hide
import Derived.WalkKit
import Derived.WalkSpells
import Derived.WalkLawsBesides
import Derived.Deep.RegionWith
import Derived.Lib.MinMax
import Derived.Tactics
import Derived.Tactics2
import Derived.Laws.Pointers
import Derived.Laws.LoneSync
import Derived.Laws.NewBlocks

set_option linter.unusedSimpArgs false
set_option linter.unusedVariables false
set_option maxRecDepth 100000
set_option maxHeartbeats 16000000
namespace Go.Proofs.YtdkjoigpahafmaaGreatDoor
section
@[ext] structure It where
 s : Int
 k : Int
 t : Nat
 v : Nat
 x : Int
instance : DecidableEq It := fun a b => decidable_of_iff (a.s = b.s ∧ a.k = b.k ∧ a.t = b.t ∧ a.v = b.v ∧ a.x = b.x) ⟨fun ⟨h1, h2, h3, h4, h5⟩ => It.ext h1 h2 h3 h4 h5, fun h => by subst h; simp⟩
namespace It
def ok (a : It) : Bool := decide (0 ≤ a.s) && decide (a.s ≤ 255) && decide (1 ≤ a.v) && decide (a.v ≤ 281474976710656) && (a.k == 1 && a.t == 0 && a.x == 0 || a.k == 2 && decide (a.t ≤ 1099511627776))
def less (a b : It) : Bool := if a.s ≠ b.s then decide (a.s < b.s) else if a.k ≠ b.k then decide (a.k < b.k) else decide (a.t < b.t)
def same (a b : It) : Bool := !less a b && !less b a
def wins (a b : It) : Bool := decide (b.v < a.v) || a.v == b.v && decide (b.x < a.x)
def hides (t a : It) : Bool := t.k == 1 && a.k == 2 && t.s == a.s && decide (a.v ≤ t.v)
variable {a b c d t : It}
theorem less_iff : less a b = true ↔ a.s < b.s ∨ a.s = b.s ∧ (a.k < b.k ∨ a.k = b.k ∧ a.t < b.t) := by
 unfold less
 split <;> (try split) <;> simp <;> omega
theorem less_no : less a b = false ↔ ¬ (a.s < b.s ∨ a.s = b.s ∧ (a.k < b.k ∨ a.k = b.k ∧ a.t < b.t)) := by
 rw [← less_iff]; simp
theorem same_iff : same a b = true ↔ a.s = b.s ∧ a.k = b.k ∧ a.t = b.t := by
 unfold same
 simp only [Bool.and_eq_true, Bool.not_eq_true', less_no]
 omega
theorem wins_iff : wins a b = true ↔ b.v < a.v ∨ a.v = b.v ∧ b.x < a.x := by simp [wins]
theorem wins_no : wins a b = false ↔ ¬ (b.v < a.v ∨ a.v = b.v ∧ b.x < a.x) := by rw [← wins_iff]; simp
theorem hides_iff : hides t a = true ↔ t.k = 1 ∧ a.k = 2 ∧ t.s = a.s ∧ a.v ≤ t.v := by simp [hides, and_assoc]
theorem hides_no : hides t a = false ↔ ¬ (t.k = 1 ∧ a.k = 2 ∧ t.s = a.s ∧ a.v ≤ t.v) := by rw [← hides_iff]; simp
theorem less_self (a : It) : less a a = false := by rw [less_no]; omega
theorem same_self (a : It) : same a a = true := by rw [same_iff]; simp
theorem less_trans (h : less a b = true) (k : less b c = true) : less a c = true := by
 rw [less_iff] at *; omega
theorem eq_of (h : same a b = true) (k : wins a b = false) (k2 : wins b a = false) : a = b := by
 rw [same_iff] at h
 rw [wins_no] at k k2
 exact It.ext (by omega) (by omega) (by omega) (by omega) (by omega)
end It
open It
def best (L : List It) (y : It) : Prop := y ∈ L ∧ y.ok = true ∧ (∀ z ∈ L, z.ok = true → same z y = true → wins z y = false) ∧ ∀ z ∈ L, z.ok = true → hides z y = false
def Eqv (L L' : List It) : Prop := ∀ y, best L y ↔ best L' y
variable {L L' A B : List It} {x y z : It}
theorem Eqv.refl (L : List It) : Eqv L L := fun _ => Iff.rfl
theorem Eqv.symm (h : Eqv L L') : Eqv L' L := fun y => (h y).symm
theorem Eqv.trans (h : Eqv A B) (k : Eqv B L) : Eqv A L := fun y => (h y).trans (k y)
theorem winner (L : List It) (z : It) (hz : z ∈ L) (hk : z.ok = true) : ∃ y ∈ L, y.ok = true ∧ same y z = true ∧ wins z y = false ∧ ∀ u ∈ L, u.ok = true → same u y = true → wins u y = false := by
 induction L generalizing z with
 | nil => cases hz
 | cons a L ih =>
  by_cases hex : ∃ u ∈ L, u.ok = true ∧ same u z = true
  ·obtain ⟨u, hu, huk, hus⟩ := hex
   obtain ⟨y, hy, hyk, hys, _, hyw⟩ := ih u hu huk
   have hyz : same y z = true := by rw [same_iff] at *; omega
   by_cases ha : a.ok = true ∧ same a y = true ∧ wins a y = true
   ·obtain ⟨ha, has, haw⟩ := ha
    refine ⟨a, List.mem_cons_self, ha, by rw [same_iff] at *; omega, ?_, fun u hu huk hus => ?_⟩
    ·rcases List.mem_cons.1 hz with rfl | hz
     ·rw [wins_no]; omega
     ·have := hyw z hz hk (by rw [same_iff] at *; omega)
      rw [wins_iff] at haw; rw [wins_no] at *; omega
    ·rcases List.mem_cons.1 hu with rfl | hu
     ·rw [wins_no]; omega
     ·have := hyw u hu huk (by rw [same_iff] at *; omega)
      rw [wins_iff] at haw; rw [wins_no] at *; omega
   ·have hay : a.ok = true → same a y = true → wins a y = false := fun h1 h2 => by
     cases h : wins a y with
     | false => rfl
     | true => exact absurd ⟨h1, h2, h⟩ ha
    refine ⟨y, List.mem_cons_of_mem _ hy, hyk, hyz, ?_, fun u hu huk hus => ?_⟩
    ·rcases List.mem_cons.1 hz with rfl | hz
     ·exact hay hk (by rw [same_iff] at *; omega)
     ·exact hyw z hz hk (by rw [same_iff] at *; omega)
    ·rcases List.mem_cons.1 hu with rfl | hu
     ·exact hay huk hus
     ·exact hyw u hu huk hus
  ·have hz1 : z = a := by
    rcases List.mem_cons.1 hz with h | h
    ·exact h
    ·exact absurd ⟨z, h, hk, same_self z⟩ hex
   subst hz1
   refine ⟨z, List.mem_cons_self, hk, same_self z, by rw [wins_no]; omega, fun u hu huk hus => ?_⟩
   rcases List.mem_cons.1 hu with rfl | hu
   ·rw [wins_no]; omega
   ·exact absurd ⟨u, hu, huk, hus⟩ hex
theorem dominated (hz : z ∈ L) (hk : z.ok = true) : (∃ y, best L y ∧ same y z = true ∧ wins z y = false) ∨ ∃ t, best L t ∧ hides t z = true := by
 obtain ⟨y, hy, hyk, hys, hyz, hyw⟩ := winner L z hz hk
 by_cases hh : ∃ t ∈ L, t.ok = true ∧ hides t y = true
 ·obtain ⟨t, ht, htk, hth⟩ := hh
  obtain ⟨u, hu, huk, hus, hut, huw⟩ := winner L t ht htk
  rw [hides_iff] at hth
  rw [same_iff] at hus hys
  rw [wins_no] at hut hyz
  refine .inr ⟨u, ⟨hu, huk, huw, fun q _ _ => ?_⟩, ?_⟩
  ·rw [hides_no]; omega
  ·rw [hides_iff]; omega
 ·refine .inl ⟨y, ⟨hy, hyk, hyw, fun q hq hqk => ?_⟩, hys, hyz⟩
  cases h : hides q y with
  | false => rfl
  | true => exact absurd ⟨q, hq, hqk, h⟩ hh
theorem Eqv.between (h1 : ∀ y, best L y → y ∈ L') (h2 : ∀ y ∈ L', y.ok = true → y ∈ L) : Eqv L' L := by
 intro y
 constructor
 ·rintro ⟨hy, hk, hw, hh⟩
  refine ⟨h2 y hy hk, hk, fun z hz hzk hs => ?_, fun z hz hzk => ?_⟩
  ·rcases dominated hz hzk with ⟨u, hu, hus, huz⟩ | ⟨t, ht, hth⟩
   ·have := hw u (h1 u hu) hu.2.1 (by rw [same_iff] at *; omega)
    rw [wins_no] at *; omega
   ·have h3 := hh t (h1 t ht) ht.2.1
    rw [same_iff] at hs
    rw [hides_no] at h3
    rw [hides_iff] at hth
    rw [wins_no]; omega
  ·rcases dominated hz hzk with ⟨u, hu, hus, huz⟩ | ⟨t, ht, hth⟩
   ·have h3 := hh u (h1 u hu) hu.2.1
    rw [same_iff] at hus
    rw [wins_no] at huz
    rw [hides_no] at *; omega
   ·rw [hides_iff] at hth
    rw [hides_no]; omega
 ·rintro ⟨hy, hk, hw, hh⟩
  exact ⟨h1 y ⟨hy, hk, hw, hh⟩, hk, fun z hz hzk => hw z (h2 z hz hzk) hzk, fun z hz hzk => hh z (h2 z hz hzk) hzk⟩
theorem Eqv.of_mem (h : ∀ y, y.ok = true → (y ∈ L ↔ y ∈ L')) : Eqv L L' := fun y =>
 ⟨fun ⟨a, k, b, c⟩ => ⟨(h y k).1 a, k, fun z hz hk => b z ((h z hk).2 hz) hk, fun z hz hk => c z ((h z hk).2 hz) hk⟩,
  fun ⟨a, k, b, c⟩ => ⟨(h y k).2 a, k, fun z hz hk => b z ((h z hk).1 hz) hk, fun z hz hk => c z ((h z hk).1 hz) hk⟩⟩
theorem best.of_sub (h : best L y) (hy : y ∈ L') (hs : ∀ z ∈ L', z ∈ L) : best L' y := ⟨hy, h.2.1, fun z hz => h.2.2.1 z (hs z hz), fun z hz => h.2.2.2 z (hs z hz)⟩
theorem best_pre {p : It → Prop} (hp : ∀ y, p y ↔ best L y) (y : It) (l : List It) (hl : ∀ y, y ∈ l ↔ p y) : best (A ++ l) y ↔ best (A ++ L) y := by
 refine Eqv.between (L := A ++ L) (fun y hy => ?_) (fun y hy _ => ?_) y
 ·rcases List.mem_append.1 hy.1 with h | h
  ·exact List.mem_append_left _ h
  ·exact List.mem_append_right _ ((hl y).2 ((hp y).2 (hy.of_sub h (fun z hz => List.mem_append_right _ hz))))
 ·rcases List.mem_append.1 hy with h | h
  ·exact List.mem_append_left _ h
  ·exact List.mem_append_right _ ((hp y).1 ((hl y).1 h)).1
def Rises (l : List It) : Prop := l.Pairwise (fun a b => less a b = true)
instance (l : List It) : Decidable (Rises l) := by unfold Rises; infer_instance
structure Stt (l : List It) : Prop where
 rises : Rises l
 ok : ∀ y ∈ l, y.ok = true
 bare : ∀ a ∈ l, ∀ b ∈ l, hides a b = false
theorem rises_inj {l : List It} (h : Rises l) {a b : It} (ha : a ∈ l) (hb : b ∈ l) (hs : same a b = true) : a = b := by
 induction l with
 | nil => cases ha
 | cons c l ih =>
  obtain ⟨h1, h2⟩ := List.pairwise_cons.1 h
  rw [same_iff] at hs
  rcases List.mem_cons.1 ha with e1 | e1 <;> rcases List.mem_cons.1 hb with e2 | e2
  ·rw [e1, e2]
  ·have := h1 b e2; rw [← e1, less_iff] at this; omega
  ·have := h1 a e1; rw [← e2, less_iff] at this; omega
  ·exact ih h2 e1 e2
theorem Stt.best {l : List It} (h : Stt l) (y : It) : y ∈ l ↔ best l y :=
 ⟨fun hy => ⟨hy, h.ok y hy, fun z hz _ hs => by rw [rises_inj h.rises hz hy hs, wins_no]; omega, fun z hz _ => h.bare z hz y hy⟩, fun hy => hy.1⟩
theorem rises_eq : ∀ {l l' : List It}, Rises l → Rises l' → (∀ y, y ∈ l ↔ y ∈ l') → l = l'
 | [], [], _, _, _ => rfl
 | [], b :: r, _, _, h => absurd ((h b).2 List.mem_cons_self) (by simp)
 | a :: r, [], _, _, h => absurd ((h a).1 List.mem_cons_self) (by simp)
 | a :: r, b :: q, h1, h2, h => by
  obtain ⟨a1, a2⟩ := List.pairwise_cons.1 h1
  obtain ⟨b1, b2⟩ := List.pairwise_cons.1 h2
  have hab : a = b := by
   rcases List.mem_cons.1 ((h a).1 List.mem_cons_self) with e | e
   ·exact e
   ·rcases List.mem_cons.1 ((h b).2 List.mem_cons_self) with f | f
    ·exact f.symm
    ·have h3 := b1 a e
     have h4 := a1 b f
     rw [less_iff] at h3 h4
     omega
  subst hab
  congr 1
  refine rises_eq a2 b2 fun y => ⟨fun hy => ?_, fun hy => ?_⟩
  ·rcases List.mem_cons.1 ((h y).1 (List.mem_cons_of_mem _ hy)) with e | e
   ·subst e
    have := a1 y hy
    rw [less_self] at this
    cases this
   ·exact e
  ·rcases List.mem_cons.1 ((h y).2 (List.mem_cons_of_mem _ hy)) with e | e
   ·subst e
    have := b1 y hy
    rw [less_self] at this
    cases this
   ·exact e
theorem Stt.eq_of {l l' : List It} (h : Stt l) (h' : Stt l') (he : ∀ y, y ∈ l ↔ y ∈ l') : l = l' := rises_eq h.rises h'.rises he
theorem Stt.filter {l : List It} (h : Stt l) (p : It → Bool) : Stt (l.filter p) :=
 ⟨h.rises.filter _, fun y hy => h.ok y (List.mem_filter.1 hy).1, fun a ha b hb => h.bare a (List.mem_filter.1 ha).1 b (List.mem_filter.1 hb).1⟩
theorem Stt.nil : Stt [] := ⟨List.Pairwise.nil, (by simp), (by simp)⟩
def pos (l : List It) (x : It) : Nat := (l.takeWhile fun a => less a x).length
def put (l : List It) (x : It) : List It := l.filter (fun y => less y x) ++ x :: l.filter (fun y => less x y)
def hidden (l : List It) (x : It) : Bool := l.any fun t => hides t x
def beaten (l : List It) (x : It) : Bool := l.any fun y => same y x && !wins x y
def add (l : List It) (x : It) : List It := if (!x.ok || hidden l x || beaten l x) = true then l else (put l x).filter fun y => !hides x y
def joins (a b : List It) : List It := b.foldl add a
theorem pos_le (l : List It) (x : It) : pos l x ≤ l.length := by
 unfold pos
 exact (List.takeWhile_prefix _).length_le
theorem split_pos {l : List It} (h : Rises l) (x : It) : l.take (pos l x) = l.filter (fun y => less y x) ∧ l.drop (pos l x) = l.filter (fun y => !less y x) := by
 induction l with
 | nil => simp [pos]
 | cons a r ih =>
  obtain ⟨a1, a2⟩ := List.pairwise_cons.1 h
  have ih := ih a2
  unfold pos at ih ⊢
  cases hl : less a x with
  | true => simp only [List.takeWhile_cons, hl, if_true, List.length_cons, List.take_succ_cons, List.drop_succ_cons, List.filter_cons, ih, Bool.not_true, Bool.false_eq_true, if_false, and_self]
  | false =>
   have h1 : ∀ y ∈ r, less y x = false := fun y hy => by
    have := a1 y hy
    rw [less_iff] at this
    rw [less_no] at *
    omega
   have h2 : r.filter (fun y => less y x) = [] := List.filter_eq_nil_iff.2 (fun y hy => by simp [h1 y hy])
   have h3 : r.filter (fun y => !less y x) = r := List.filter_eq_self.2 (fun y hy => by simp [h1 y hy])
   simp [List.takeWhile_cons, hl, h2, h3]
theorem mem_put {l : List It} : y ∈ put l x ↔ y = x ∨ y ∈ l ∧ same y x = false := by
 unfold put
 simp only [List.mem_append, List.mem_filter, List.mem_cons]
 have : same y x = false ↔ less y x = true ∨ less x y = true := by
  unfold same
  cases less y x <;> cases less x y <;> simp
 rw [this]
 constructor
 ·rintro (h | h | h)
  ·exact .inr ⟨h.1, .inl h.2⟩
  ·exact .inl h
  ·exact .inr ⟨h.1, .inr h.2⟩
 ·rintro (h | ⟨h, k | k⟩)
  ·exact .inr (.inl h)
  ·exact .inl ⟨h, k⟩
  ·exact .inr (.inr ⟨h, k⟩)
theorem rises_put {l : List It} (h : Rises l) : Rises (put l x) := by
 unfold put Rises
 refine List.pairwise_append.2 ⟨h.filter _, List.pairwise_cons.2 ⟨fun y hy => (List.mem_filter.1 hy).2, h.filter _⟩, fun a ha b hb => ?_⟩
 have h1 := (List.mem_filter.1 ha).2
 rcases List.mem_cons.1 hb with rfl | hb
 ·exact h1
 ·exact less_trans h1 (List.mem_filter.1 hb).2
theorem put_insert {l : List It} (h : Rises l) (hn : ∀ y, l[pos l x]? = some y → same y x = false) : put l x = l.take (pos l x) ++ x :: l.drop (pos l x) := by
 obtain ⟨h1, h2⟩ := split_pos h x
 unfold put
 rw [h1]
 congr 2
 have hd : ∀ y ∈ l.drop (pos l x), less x y = true := fun y hy => by
  have hs := h.sublist (List.drop_sublist (pos l x) l)
  have hy2 : less y x = false := by rw [h2] at hy; simpa using (List.mem_filter.1 hy).2
  cases hdr : l.drop (pos l x) with
  | nil => rw [hdr] at hy; cases hy
  | cons c r =>
   have hc : l[pos l x]? = some c := by
    have := List.getElem?_drop (xs := l) (i := pos l x) (j := 0)
    rw [hdr] at this
    simpa using this.symm
   have hcs := hn c hc
   have hcl : less c x = false := by
    have : c ∈ l.drop (pos l x) := by rw [hdr]; simp
    rw [h2] at this
    simpa using (List.mem_filter.1 this).2
   have hxc : less x c = true := by
    unfold same at hcs
    rw [hcl] at hcs
    simpa using hcs
   rw [hdr] at hy hs
   obtain ⟨p1, _⟩ := List.pairwise_cons.1 hs
   rcases List.mem_cons.1 hy with rfl | hy
   ·exact hxc
   ·exact less_trans hxc (p1 y hy)
 have e : l.filter (fun y => less x y) = (l.drop (pos l x)).filter (fun y => less x y) := by
  conv => lhs; rw [← List.take_append_drop (pos l x) l, List.filter_append]
  rw [List.filter_eq_nil_iff.2, List.nil_append]
  intro y hy
  rw [h1] at hy
  have := (List.mem_filter.1 hy).2
  rw [less_iff] at this
  simp only [Bool.not_eq_true, less_no]
  omega
 rw [e]
 exact List.filter_eq_self.2 hd
theorem put_set {l : List It} (h : Rises l) {c : It} (hc : l[pos l x]? = some c) (hs : same c x = true) : put l x = l.set (pos l x) x := by
 have hp : pos l x < l.length := (List.getElem?_eq_some_iff.1 hc).1
 have hcg := (List.getElem?_eq_some_iff.1 hc).2
 refine rises_eq (rises_put h) ?_ (fun y => ?_)
 ·unfold Rises
  rw [List.set_eq_take_append_cons_drop, if_pos hp]
  have h0 : Rises (l.take (pos l x) ++ c :: l.drop (pos l x + 1)) := by
   rw [← hcg, List.getElem_cons_drop, List.take_append_drop]; exact h
  obtain ⟨b1, b2, b3⟩ := List.pairwise_append.1 h0
  obtain ⟨b4, b5⟩ := List.pairwise_cons.1 b2
  rw [same_iff] at hs
  refine List.pairwise_append.2 ⟨b1, List.pairwise_cons.2 ⟨fun y hy => ?_, b5⟩, fun a ha b hb => ?_⟩
  ·have := b4 y hy
   rw [less_iff] at *; omega
  ·rcases List.mem_cons.1 hb with rfl | hb
   ·have := b3 a ha c (by simp)
    rw [less_iff] at *; omega
   ·exact b3 a ha b (by simp [hb])
 ·rw [mem_put]
  constructor
  ·rintro (rfl | ⟨hy, hn⟩)
   ·exact List.mem_set hp _
   ·obtain ⟨i, hi, rfl⟩ := List.getElem_of_mem hy
    have hne : pos l x ≠ i := fun e => by subst e; rw [hcg, hs] at hn; cases hn
    exact List.mem_iff_getElem.2 ⟨i, by simpa using hi, by rw [List.getElem_set, if_neg hne]⟩
  ·intro hy
   obtain ⟨i, hi, rfl⟩ := List.getElem_of_mem hy
   simp only [List.length_set] at hi
   rw [List.getElem_set]
   split
   ·exact .inl rfl
   ·rename_i hne
    refine .inr ⟨List.getElem_mem _, ?_⟩
    cases hq : same l[i] x with
    | false => rfl
    | true =>
     exfalso
     have : l[i] = c := rises_inj h (List.getElem_mem _) (by rw [← hcg]; exact List.getElem_mem _) (by rw [same_iff] at *; omega)
     rw [← hcg] at this
     have h3 := List.pairwise_iff_getElem.1 h
     rcases Nat.lt_or_gt_of_ne hne with h4 | h4
     ·have := h3 _ _ hp hi h4
      simp_all [less_self]
     ·have := h3 _ _ hi hp h4
      simp_all [less_self]
theorem add_stt {l : List It} (h : Stt l) : Stt (add l x) ∧ ∀ y, y ∈ add l x ↔ best (x :: l) y := by
 unfold add
 split
 ·rename_i hc
  refine ⟨h, fun y => (h.best y).trans (Eqv.between (L := x :: l) (L' := l) (fun y hy => ?_) (fun y hy _ => List.mem_cons_of_mem _ hy) y)⟩
  rcases List.mem_cons.1 hy.1 with rfl | h1
  ·obtain ⟨_, hk, hw, hh⟩ := hy
   simp only [Bool.or_eq_true, Bool.not_eq_true', hidden, beaten, List.any_eq_true, Bool.and_eq_true] at hc
   rcases hc with (hc | ⟨t, ht, hc⟩) | ⟨z, hz, hs, hc⟩
   ·rw [hc] at hk; cases hk
   ·rw [hh t (List.mem_cons_of_mem _ ht) (h.ok t ht)] at hc; cases hc
   ·have h2 := hw z (List.mem_cons_of_mem _ hz) (h.ok z hz) hs
    rw [← It.eq_of hs h2 hc]
    exact hz
  ·exact h1
 ·rename_i hc
  have hc : (!x.ok || hidden l x || beaten l x) = false := by simpa using hc
  simp only [Bool.or_eq_false_iff, Bool.not_eq_false', hidden, beaten, List.any_eq_false, Bool.and_eq_true, not_and, Bool.not_eq_true', Bool.not_eq_true, Bool.not_eq_false] at hc
  obtain ⟨⟨hk, hh⟩, hb⟩ := hc
  have hxx : hides x x = false := by rw [hides_no]; omega
  refine ⟨⟨(rises_put h.rises).filter _, fun y hy => ?_, fun a ha b hb2 => ?_⟩, fun y => ?_⟩
  ·rcases mem_put.1 (List.mem_filter.1 hy).1 with rfl | ⟨h1, _⟩
   ·exact hk
   ·exact h.ok y h1
  ·obtain ⟨ha1, ha2⟩ := List.mem_filter.1 ha
   obtain ⟨hb1, hb3⟩ := List.mem_filter.1 hb2
   rcases mem_put.1 ha1 with rfl | ⟨h1, _⟩
   ·simpa using hb3
   ·rcases mem_put.1 hb1 with rfl | ⟨h2, _⟩
    ·exact hh a h1
    ·exact h.bare a h1 b h2
  ·rw [List.mem_filter, mem_put]
   constructor
   ·rintro ⟨rfl | ⟨hy, hn⟩, hf⟩
    ·refine ⟨List.mem_cons_self, hk, fun z hz _ hs => ?_, fun z hz _ => ?_⟩
     ·rcases List.mem_cons.1 hz with rfl | hz
      ·rw [wins_no]; omega
      ·have := hb z hz hs
       rw [wins_iff] at this
       rw [wins_no]; omega
     ·rcases List.mem_cons.1 hz with rfl | hz
      ·exact hxx
      ·exact hh z hz
    ·have hf : hides x y = false := by simpa using hf
     refine ⟨List.mem_cons_of_mem _ hy, h.ok y hy, fun z hz _ hs => ?_, fun z hz _ => ?_⟩
     ·rcases List.mem_cons.1 hz with rfl | hz
      ·rw [same_iff] at hs
       exfalso
       have : same y z = true := by rw [same_iff]; omega
       rw [this] at hn; cases hn
      ·rw [rises_inj h.rises hz hy hs, wins_no]; omega
     ·rcases List.mem_cons.1 hz with rfl | hz
      ·exact hf
      ·exact h.bare z hz y hy
   ·rintro ⟨hy, hyk, hw, hh2⟩
    have hf := hh2 x List.mem_cons_self hk
    refine ⟨?_, by simp [hf]⟩
    rcases List.mem_cons.1 hy with h1 | h1
    ·exact .inl h1
    ·refine .inr ⟨h1, ?_⟩
     cases hs : same y x with
     | false => rfl
     | true =>
      have h2 := hb y h1 hs
      have h3 := hw x List.mem_cons_self hk (by rw [same_iff] at *; omega)
      rw [h2] at h3; cases h3
theorem joins_stt (b : List It) : ∀ {a : List It}, Stt a → Stt (joins a b) ∧ ∀ y, y ∈ joins a b ↔ best (b ++ a) y := by
 induction b with
 | nil => exact fun h => ⟨h, h.best⟩
 | cons x b ih =>
  intro a h
  obtain ⟨h1, h2⟩ := add_stt (x := x) h
  obtain ⟨h3, h4⟩ := ih h1
  refine ⟨h3, fun y => (h4 y).trans ((best_pre (p := fun y => y ∈ add a x) (L := x :: a) h2 y (add a x) (fun y => Iff.rfl)).trans ?_)⟩
  exact Eqv.of_mem (fun y _ => by simp [or_left_comm]) y
theorem put_len (l : List It) (x : It) : (put l x).length ≤ l.length + 1 := by
 have h1 : (l.filter (fun y => less y x)).length + (l.filter (fun y => less x y)).length ≤ l.length := by
  induction l with
  | nil => simp
  | cons a r ih =>
   simp only [List.filter_cons, List.length_cons]
   cases h1 : less a x <;> cases h2 : less x a
   ·simp only [Bool.false_eq_true, if_false]; omega
   ·simp only [Bool.false_eq_true, if_false, if_true, List.length_cons]; omega
   ·simp only [Bool.false_eq_true, if_false, if_true, List.length_cons]; omega
   ·rw [less_iff] at h1 h2; omega
 unfold put
 simp only [List.length_append, List.length_cons]
 omega
theorem add_len (l : List It) (x : It) : (add l x).length ≤ l.length + 1 := by
 unfold add
 split
 ·omega
 ·exact Nat.le_trans (List.length_filter_le _ _) (put_len l x)
theorem joins_len (b : List It) : ∀ a : List It, (joins a b).length ≤ a.length + b.length := by
 induction b with
 | nil => intro a; simp [joins]
 | cons x b ih =>
  intro a
  have h1 := ih (add a x)
  have h2 := add_len a x
  simp only [joins, List.foldl_cons, List.length_cons] at *
  omega
end
section
open It
def win (L : List It) (y : It) : Prop := y ∈ L ∧ ∀ z ∈ L, same z y = true → wins z y = false
def wput (l : List It) (x : It) : List It := if beaten l x = true then l else put l x
def winners (L : List It) : List It := L.foldl wput []
variable {L : List It} {x y : It}
end
section
open It
def sgn (x : Int) : Nat := if 0 ≤ x then (2 * x).toNat else (-2 * x - 1).toNat
def unsgn (n : Nat) : Int := if n % 2 = 0 then (n / 2 : Nat) else -((n / 2 : Nat) : Int) - 1
theorem unsgn_sgn (x : Int) : unsgn (sgn x) = x := by
 unfold unsgn sgn
 split <;> split <;> omega
theorem sgn_lt {x : Int} (h1 : -9223372036854775808 ≤ x) (h2 : x < 9223372036854775808) : sgn x < 2 ^ 64 := by
 unfold sgn
 split <;> omega
namespace It
def fit (a : It) : Prop := -9223372036854775808 ≤ a.x ∧ a.x < 9223372036854775808
def one (a : It) : List UInt8 := UInt8.ofNat a.s.toNat :: UInt8.ofNat a.k.toNat :: (Pn.put a.t ++ (Pn.put a.v ++ Pn.put (sgn a.x)))
def bytes (l : List It) : List UInt8 := Pn.put l.length ++ l.flatMap one
def take1 (b : List UInt8) : It × List UInt8 × Nat :=
 if b.length < 2 then (⟨0, 0, 0, 0, 0⟩, [], 4) else
 match Pn.take (b.drop 2) with
 | (t, n1, 0) => match Pn.take ((b.drop 2).drop n1) with
  | (v, n2, 0) => match Pn.take (((b.drop 2).drop n1).drop n2) with
   | (x, n3, 0) => (⟨Fr.u b 0, Fr.u b 1, t, v, unsgn x⟩, ((b.drop 2).drop n1 |>.drop n2).drop n3, 0)
   | (_, _, e) => (⟨0, 0, 0, 0, 0⟩, [], e)
  | (_, _, e) => (⟨0, 0, 0, 0, 0⟩, [], e)
 | (_, _, e) => (⟨0, 0, 0, 0, 0⟩, [], e)
def takes : Nat → List UInt8 → List It → List It × List UInt8 × Nat
 | 0, b, out => (out, b, 0)
 | n + 1, b, out => match take1 b with
  | (x, r, 0) => takes n r (out ++ [x])
  | (_, _, e) => ([], [], e)
def read (b : List UInt8) : List It × Nat := match Pn.take b with
 | (n, size, 0) => if 2000 < n then ([], 2) else match takes n (b.drop size) [] with
  | (out, r, 0) => if r = [] ∧ out.all ok = true then (out, 0) else ([], 3)
  | (_, _, e) => ([], e)
 | (_, _, e) => ([], e)
theorem ok_iff {a : It} : a.ok = true ↔ 0 ≤ a.s ∧ a.s ≤ 255 ∧ 1 ≤ a.v ∧ a.v ≤ 281474976710656 ∧ (a.k = 1 ∧ a.t = 0 ∧ a.x = 0 ∨ a.k = 2 ∧ a.t ≤ 1099511627776) := by
 simp [ok, and_assoc]
theorem take1_one {a : It} (h : a.ok = true) (hf : a.fit) (r : List UInt8) : take1 (a.one ++ r) = (a, r, 0) := by
 rw [ok_iff] at h
 have e1 : (a.one ++ r).drop 2 = Pn.put a.t ++ (Pn.put a.v ++ (Pn.put (sgn a.x) ++ r)) := by simp [one]
 have l2 : ¬ (a.one ++ r).length < 2 := by simp [one]
 unfold take1
 rw [if_neg l2, e1, Pn.take_put _ _ (by omega)]
 simp only [List.drop_left]
 rw [Pn.take_put _ _ (by omega)]
 simp only [List.drop_left]
 rw [Pn.take_put _ _ (sgn_lt hf.1 hf.2)]
 simp only [List.drop_left]
 have u0 : ((Fr.u (a.one ++ r) 0 : Nat) : Int) = a.s := by
  simp only [Fr.u, one, List.cons_append, List.getD_cons_zero]
  rw [Fr.u8n _ (by omega)]; omega
 have u1 : ((Fr.u (a.one ++ r) 1 : Nat) : Int) = a.k := by
  simp only [Fr.u, one, List.cons_append, List.getD_cons_succ, List.getD_cons_zero]
  rw [Fr.u8n _ (by omega)]; omega
 rw [u0, u1, unsgn_sgn]
theorem takes_bytes : ∀ (l : List It) (out : List It) (r : List UInt8), (∀ a ∈ l, a.ok = true ∧ a.fit) → takes l.length (l.flatMap one ++ r) out = (out ++ l, r, 0)
 | [], out, r, _ => by simp [takes]
 | a :: l, out, r, h => by
  have h1 := h a List.mem_cons_self
  simp only [List.length_cons, takes, List.flatMap_cons, List.append_assoc, take1_one h1.1 h1.2]
  rw [takes_bytes l (out ++ [a]) r (fun b hb => h b (List.mem_cons_of_mem _ hb))]
  simp
theorem read_bytes {l : List It} (h : ∀ a ∈ l, a.ok = true ∧ a.fit) (hl : l.length ≤ 2000) : read (bytes l) = (l, 0) := by
 unfold read bytes
 rw [Pn.take_put _ _ (by omega)]
 simp only [List.drop_left]
 rw [if_neg (by omega), show l.flatMap one = l.flatMap one ++ [] from (List.append_nil _).symm, takes_bytes l [] [] h]
 have hal : l.all ok = true := List.all_eq_true.2 fun a ha => (h a ha).1
 simp [hal]
theorem one_len (a : It) : 2 ≤ a.one.length ∧ a.one.length ≤ 32 := by
 have h1 := Pn.put_len a.t
 have h2 := Pn.put_len a.v
 have h3 := Pn.put_len (sgn a.x)
 simp only [one, List.length_cons, List.length_append]
 omega
theorem bytes_len (l : List It) : (bytes l).length ≤ 10 + 32 * l.length := by
 have h1 := Pn.put_len l.length
 have h2 : ∀ l : List It, (l.flatMap one).length ≤ 32 * l.length := fun l => by
  induction l with
  | nil => simp
  | cons a l ih => have := one_len a; simp only [List.flatMap_cons, List.length_append, List.length_cons]; omega
 have := h2 l
 simp only [bytes, List.length_append]
 omega
def key (a : It) : List UInt8 := UInt8.ofNat a.s.toNat :: UInt8.ofNat a.k.toNat :: [56, 48, 40, 32, 24, 16, 8, 0].map fun k => UInt8.ofNat (a.t / 2 ^ k)
end It
end
section
open It
namespace Tb
def cut (n : Nat) : Nat → List It → List (List It)
 | 0, _ => []
 | f + 1, l => if l = [] then [] else l.take n :: cut n f (l.drop n)
def rows (l : List It) : List (List It) := cut 20 l.length l
def may (l : List It) : Bool := decide (l ≠ []) && decide (Rises l) && l.all ok
def blocks (l : List (List It)) : List UInt8 := l.flatMap fun r => Fr.put 2 (It.bytes r)
def index : Nat → List (List It) → List UInt8
 | _, [] => []
 | p, r :: l => Pn.put p ++ (It.bytes (r.take 1) ++ index (p + (Fr.put 2 (It.bytes r)).length) l)
def fsize (n : Nat) : Nat := (max (n * 10) 64 + 7) / 8
def places (size : Nat) (key : List UInt8) : List Nat := (List.range 7).map fun i => (((Fnv.hash key).toNat % 4294967296 + i * ((Fnv.hash key).toNat / 4294967296)) % 4294967296) % (size * 8)
def setBit (b : List UInt8) (i : Nat) : List UInt8 := b.set (i / 8) (b.getD (i / 8) 0 ||| UInt8.ofNat (2 ^ (i % 8)))
def addKey (b : List UInt8) (key : List UInt8) : List UInt8 := (places b.length key).foldl setBit b
def bits (l : List It) : List UInt8 := l.foldl (fun b a => addKey b a.key) (List.replicate (fsize l.length) 0)
def filt (l : List It) : List UInt8 := Pn.put 7 ++ (Pn.put (bits l).length ++ bits l)
def make (l : List It) : List UInt8 :=
 let a := blocks (rows l)
 let b := a ++ Fr.put 3 (index 0 (rows l))
 b ++ (Fr.put 4 (filt l) ++ Fr.put 5 (Pn.put a.length ++ (Pn.put b.length ++ Pn.put l.length)))
def good (l : List It) : Bool := decide (l.length ≤ 2000) && decide (Rises l) && l.all ok
def parse : Nat → List UInt8 → Nat → List (List It)
 | 0, _, _ => []
 | f + 1, b, p => if (Fr.take b p).2.2.2 = 0 ∧ (Fr.take b p).1 = 2 ∧ (It.read (Fr.take b p).2.1).2 = 0 ∧ (It.read (Fr.take b p).2.1).1.length ≤ 100 ∧ may (It.read (Fr.take b p).2.1).1 = true then
   (It.read (Fr.take b p).2.1).1 :: parse f b (Fr.take b p).2.2.1 else []
def open_ (b : List UInt8) : Option (List (List It)) :=
 if good (parse (b.length + 1) b 0).flatten = true ∧ make (parse (b.length + 1) b 0).flatten = b then some (parse (b.length + 1) b 0) else none
theorem cut_flat (n : Nat) (hn : 0 < n) : ∀ (f : Nat) (l : List It), l.length ≤ f → (cut n f l).flatten = l
 | 0, l, h => by
  have : l = [] := List.length_eq_zero_iff.1 (by omega)
  simp [cut, this]
 | f + 1, l, h => by
  unfold cut
  split
  ·simp [*]
  ·rename_i hl
   have hp : 0 < l.length := List.length_pos_iff.2 hl
   rw [List.flatten_cons, cut_flat n hn f (l.drop n) (by rw [List.length_drop]; omega), List.take_append_drop]
theorem rows_flat (l : List It) : (rows l).flatten = l := cut_flat 20 (by omega) _ _ (Nat.le_refl _)
theorem cut_mem (n : Nat) (hn : 0 < n) : ∀ (f : Nat) (l : List It), ∀ r ∈ cut n f l, r ≠ [] ∧ r.length ≤ n ∧ r.Sublist l
 | 0, l => by simp [cut]
 | f + 1, l => by
  unfold cut
  split
  ·simp
  ·rename_i hl
   intro r hr
   rcases List.mem_cons.1 hr with rfl | hr
   ·exact ⟨by simp [hl]; omega, by simp; omega, List.take_sublist _ _⟩
   ·obtain ⟨h1, h2, h3⟩ := cut_mem n hn f _ r hr
    exact ⟨h1, h2, h3.trans (List.drop_sublist _ _)⟩
theorem cut_len (n : Nat) (hn : 0 < n) : ∀ (f : Nat) (l : List It), (cut n f l).length * n ≤ l.length + n - 1
 | 0, l => by simp [cut]
 | f + 1, l => by
  unfold cut
  split
  ·simp
  ·rename_i hl
   have hp : 0 < l.length := List.length_pos_iff.2 hl
   have := cut_len n hn f (l.drop n)
   rw [List.length_drop] at this
   rw [List.length_cons, Nat.succ_mul]
   rcases Nat.lt_or_ge l.length n with h | h
   ·have h0 : l.length - n = 0 := by omega
    rw [h0, Nat.zero_add] at this
    have : (cut n f (l.drop n)).length = 0 := by
     have h1 : l.drop n = [] := List.drop_eq_nil_of_le (by omega)
     rw [h1]
     cases f <;> simp [cut]
    rw [this]
    omega
   ·omega
theorem parse_blocks : ∀ (rs : List (List It)) (f : Nat) (a t : List UInt8), (∀ r ∈ rs, may r = true ∧ r.length ≤ 100 ∧ ∀ y ∈ r, y.fit) → rs.length < f →
  (Fr.take (a ++ (blocks rs ++ t)) (a.length + (blocks rs).length)).1 ≠ 2 ∨ (Fr.take (a ++ (blocks rs ++ t)) (a.length + (blocks rs).length)).2.2.2 ≠ 0 → parse f (a ++ (blocks rs ++ t)) a.length = rs
 | [], f, a, t, _, hf, ht => by
  obtain ⟨f, rfl⟩ : ∃ g, f = g + 1 := ⟨f - 1, by simp at hf; omega⟩
  simp only [blocks, List.flatMap_nil, List.nil_append, List.length_nil, Nat.add_zero] at ht ⊢
  unfold parse
  rw [if_neg]
  rintro ⟨h1, h2, _⟩
  rcases ht with h | h
  ·exact h h2
  ·exact h h1
 | r :: rs, f, a, t, hr, hf, ht => by
  obtain ⟨f, rfl⟩ : ∃ g, f = g + 1 := ⟨f - 1, by simp at hf; omega⟩
  obtain ⟨h1, h2, h3⟩ := hr r List.mem_cons_self
  have hok : ∀ y ∈ r, y.ok = true := by
   simp only [may, Bool.and_eq_true, List.all_eq_true] at h1
   exact h1.2
  have hbl := It.bytes_len r
  have e0 : a ++ (blocks (r :: rs) ++ t) = a ++ (Fr.put 2 (It.bytes r) ++ (blocks rs ++ t)) := by simp [blocks]
  have e1 : a ++ (Fr.put 2 (It.bytes r) ++ (blocks rs ++ t)) = (a ++ Fr.put 2 (It.bytes r)) ++ (blocks rs ++ t) := by simp
  have ht2 := Fr.take_put a 2 (It.bytes r) (blocks rs ++ t) (by omega) (by omega) (by omega)
  have hrd := It.read_bytes (l := r) (fun y hy => ⟨hok y hy, h3 y hy⟩) (by omega)
  unfold parse
  rw [e0, ht2]
  simp only [hrd, true_and]
  rw [if_pos ⟨h2, h1⟩]
  congr 1
  have := parse_blocks rs f (a ++ Fr.put 2 (It.bytes r)) t (fun q hq => hr q (List.mem_cons_of_mem _ hq)) (by simp at hf; omega) (by
   have e2 : a.length + (blocks (r :: rs)).length = (a ++ Fr.put 2 (It.bytes r)).length + (blocks rs).length := by simp [blocks]; omega
   rw [e0, e2, e1] at ht
   exact ht)
  rw [← e1, List.length_append] at this
  exact this
theorem rows_may {l : List It} (h : good l = true) (hf : ∀ y ∈ l, y.fit) : ∀ r ∈ rows l, may r = true ∧ r.length ≤ 100 ∧ ∀ y ∈ r, y.fit := by
 intro r hr
 simp only [good, Bool.and_eq_true, decide_eq_true_eq, List.all_eq_true] at h
 obtain ⟨h1, h2, h3⟩ := cut_mem 20 (by omega) _ _ r hr
 refine ⟨?_, by omega, fun y hy => hf y (h3.subset hy)⟩
 simp only [may, Bool.and_eq_true, decide_eq_true_eq, List.all_eq_true]
 exact ⟨⟨h1, h.1.2.sublist h3⟩, fun y hy => h.2 y (h3.subset hy)⟩
theorem index_len : ∀ (p : Nat) (rs : List (List It)), (index p rs).length ≤ 52 * rs.length
 | _, [] => by simp [index]
 | p, r :: rs => by
  have h1 := index_len (p + (Fr.put 2 (It.bytes r)).length) rs
  have h2 := Pn.put_len p
  have h3 := It.bytes_len (r.take 1)
  have h4 : (r.take 1).length ≤ 1 := by rw [List.length_take]; omega
  simp only [index, List.length_append, List.length_cons]
  omega
theorem open_make {l : List It} (h : good l = true) (hf : ∀ y ∈ l, y.fit) : open_ (make l) = some (rows l) := by
 have hl : l.length ≤ 2000 := by simp only [good, Bool.and_eq_true, decide_eq_true_eq] at h; exact h.1.1
 have hrl : (rows l).length ≤ 100 := by
  have := cut_len 20 (by omega) l.length l
  unfold rows
  omega
 have hil := index_len 0 (rows l)
 have hp : parse ((make l).length + 1) (make l) 0 = rows l := by
  have e : make l = [] ++ (blocks (rows l) ++ (Fr.put 3 (index 0 (rows l)) ++ (Fr.put 4 (filt l) ++ Fr.put 5 (Pn.put (blocks (rows l)).length ++ (Pn.put (blocks (rows l) ++ Fr.put 3 (index 0 (rows l))).length ++ Pn.put l.length))))) := by
   simp [make]
  have hlen : (rows l).length < (make l).length + 1 := by
   have : ∀ rs : List (List It), rs.length ≤ (blocks rs).length := fun rs => by
    induction rs with
    | nil => simp
    | cons r rs ih => simp only [blocks, List.flatMap_cons, List.length_append, List.length_cons, Fr.put_length] at *; omega
   have h1 := this (rows l)
   have h2 : (blocks (rows l)).length ≤ (make l).length := by rw [e]; simp
   omega
  generalize (make l).length + 1 = f at *
  rw [e]
  refine parse_blocks (rows l) f [] _ (rows_may h hf) hlen (.inl ?_)
  rw [List.nil_append, List.length_nil, Nat.zero_add]
  rw [Fr.take_put (blocks (rows l)) 3 (index 0 (rows l)) _ (by omega) (by omega) (by omega)]
  exact (by decide : (3 : Nat) ≠ 2)
 unfold open_
 rw [hp, rows_flat, if_pos ⟨h, rfl⟩]
end Tb
namespace Lg
def batch (l : List It) : List UInt8 := Fr.put 1 (It.bytes l)
def text (ls : List (List It)) : List UInt8 := Fr.all 1 (ls.map It.bytes)
theorem batch_len (l : List It) : (batch l).length ≤ 22 + 32 * l.length := by
 have := It.bytes_len l
 rw [batch, Fr.put_length]; omega
end Lg
end
section
open Go
structure Sv where
 M : Gs
 nm : List UInt8
 sz : Nat
 ct : Nat
 mem : List It
 tabs : List ((Int × Int) × List (List It))
 st : List It
 only : Bool
namespace St
def kLog1 : List UInt8 := [108, 111, 103, 46, 49]
def kMan1 : List UInt8 := [109, 97, 110, 46, 49]
def isOwn (s : List UInt8) : Bool := (s == Mw.kCur || s == Mw.kTemp) || [Mn.kLog, Mn.kTab, Mn.kMan].any fun k => (Mn.number s k).isSome
def isNone (S : Sd) (s : List UInt8) : Bool := (s == Mw.kTemp || s == kMan1) || (s == kLog1 && (S.read s).1.length == 0)
def isNew (S : Sd) : Bool := !(S.list.any fun s => isOwn s && !isNone S s)
def wipe : List (List UInt8) → Sd → Sd × Nat
 | [], S => (S, 0)
 | s :: r, S => if isOwn s = true then (if (S.remove s).2 = 0 then wipe r (S.remove s).1 else S.remove s) else wipe r S
def first : Gs := ⟨[], ⟨1, [], 0, 0, 0, 0⟩, 0, false⟩
def create (S : Sd) : Sd × Option Sv × Nat :=
 let a := wipe S.list S
 if a.2 ≠ 0 then (a.1, none, a.2) else
 let b := a.1.create kLog1
 if b.2 ≠ 0 then (b.1, none, b.2) else
 let c := b.1.sync kLog1
 if c.2 ≠ 0 then (c.1, none, c.2) else
 let r := Gw.rewrite c.1 first (Mn.name Mn.kMan 1)
 if r.2.2 ≠ 0 then (r.1, none, r.2.2) else (r.1, some ⟨r.2.1, kLog1, 0, 0, [], [], [], false⟩, 0)
def number (S : Sd) : Int := max (Mn.greatest S.list Mn.kLog) (Mn.greatest S.list Mn.kTab) + 1
def write (S : Sd) (l : List It) : Sd × Nat :=
 if 1073741824 < number S then (S, 65) else
 let s := Mn.name Mn.kTab (number S)
 let a := S.create s
 if a.2 ≠ 0 then a else
 let b := a.1.append s (Tb.make l)
 if b.2 ≠ 0 then b else b.1.sync s
def fresh (S : Sd) : Sd × Nat :=
 if 1073741824 < number S then (S, 65) else
 let s := Mn.name Mn.kLog (number S)
 let a := S.create s
 if a.2 ≠ 0 then a else a.1.sync s
def saved (S : Sd) (V : Sv) (x : Ed) : Sd × Sv × Nat :=
 let r := Gw.save S V.M x
 (r.1, { V with M := r.2.1, only := V.only || r.2.1.broken }, r.2.2)
def turn (S : Sd) (V : Sv) (x : Ed) (D : Sv → Sv) : Sd × Sv × Nat :=
 if S.syncDir.2 ≠ 0 then (S.syncDir.1, V, S.syncDir.2) else
 let r := saved S.syncDir.1 V x
 if r.2.2 = 0 ∨ r.2.1.only = true then (r.1, D r.2.1, r.2.2) else r
def live (V : Sv) : List It := V.mem.filter fun x => decide (x ∈ V.st)
def turned (n : Int) (tabs : List ((Int × Int) × List (List It))) (V : Sv) : Sv := { V with nm := Mn.name Mn.kLog n, sz := 0, ct := 0, mem := [], tabs := tabs }
def flush2 (S : Sd) (V : Sv) (add : List (Int × Int)) (tabs : List ((Int × Int) × List (List It))) : Sd × Sv × Nat :=
 let b := fresh S
 if b.2 ≠ 0 then (b.1, V, b.2) else
 let r := turn b.1 V ⟨[], add, number S, 0, 0, 0, 0⟩ (turned (number S) tabs)
 if r.2.2 = 0 then ((r.1.remove (Mn.name Mn.kLog V.M.v.log)).1, r.2.1, 0) else r
def flush (S : Sd) (V : Sv) : Sd × Sv × Nat :=
 if V.only = true then (S, V, 14) else
 if V.ct = 0 then (S, V, 0) else
 if 30 ≤ V.tabs.length then (S, V, 65) else
 if live V = [] then flush2 S V [] V.tabs else
 let a := write S (live V)
 if a.2 ≠ 0 then (a.1, V, a.2) else flush2 a.1 V [(0, number S)] (V.tabs ++ [((0, number S), Tb.rows (live V))])
def apply (S : Sd) (V : Sv) (l : List It) : Sd × Sv × Nat :=
 if V.only = true then (S, V, 14) else
 if l = [] ∨ l.all It.ok = false then (S, V, 1) else
 if 1000 < l.length then (S, V, 2) else
 if 1500 < (joins V.st l).length then (S, V, 2) else
 let a := S.append V.nm (Lg.batch l)
 if a.2 ≠ 0 then (a.1, V, a.2) else (a.1, { V with sz := V.sz + (Lg.batch l).length, ct := V.ct + 1, mem := l.foldl wput V.mem, st := joins V.st l }, 0)
end St
end
section
open Go Go.RowKit
theorem gflat_len {α : Type} (f : α → List Value) (sz : Nat) (hf : ∀ x, (f x).length = sz) (l : List α) : (l.flatMap f).length = l.length * sz := by
 induction l with
 | nil => simp
 | cons h t ih => rw [List.flatMap_cons, List.length_append, ih, hf, List.length_cons, Nat.add_mul]; omega
theorem gflat_get {α : Type} (f : α → List Value) (sz : Nat) (hf : ∀ x, (f x).length = sz) : ∀ (l : List α) (k j : Nat) (hk : k < l.length), j < sz → (l.flatMap f)[k * sz + j]? = (f l[k])[j]?
 | h :: t, 0, j, _, hj => by
  rw [List.flatMap_cons, List.getElem?_append_left (by rw [hf]; omega)]
  simp
 | h :: t, k + 1, j, hk, hj => by
  have e : (k + 1) * sz + j - (f h).length = k * sz + j := by rw [hf, Nat.add_mul]; omega
  rw [List.flatMap_cons, List.getElem?_append_right (by rw [hf, Nat.add_mul]; omega), e, gflat_get f sz hf t k j (by simpa using hk) hj]
  simp
theorem row_cell {B n sz : Nat} {w : World} {A : Option Addr} {vs : List Value} (h : Row B w A n sz vs) {i : Nat} {v : Value} (hv : vs[i]? = some v) : ∃ a, A = some a ∧ a.block < B ∧ w.cell? (a.add i) = some v := by
 obtain ⟨hi, e⟩ := List.getElem?_eq_some_iff.1 hv
 obtain ⟨a, ea, hb, hc⟩ := h.cell i hi
 exact ⟨a, ea, hb, by rw [hc, e]⟩
end
section
open Go Go.RowKit
theorem iadd_at (a : Addr) (k : Nat) {j : Nat} (hj : 0 < j) : a.add (k + j) = ⟨(a.add k).block, (a.add k).off + j, none⟩ := by
 rw [← add_twice, Addr.add, if_neg (by omega)]
def It.cells (a : It) : List Value := [.int .i64 a.s, .int .i64 a.k, .int .u64 (a.t : Int), .int .u64 (a.v : Int), .int .i64 a.x]
def It.val (a : It) : Value := .agg #[.int .i64 a.s, .int .i64 a.k, .int .u64 (a.t : Int), .int .u64 (a.v : Int), .int .i64 a.x]
theorem It.cells_len (a : It) : a.cells.length = 5 := rfl
theorem ret_bo {a b : Bool} (h : a = b) : Ending.returned (.bool a) = .returned (.bool b) := by rw [h]
def itc (l : List It) : List Value := l.flatMap It.cells
theorem itc_length (l : List It) : (itc l).length = l.length * 5 := gflat_len It.cells 5 It.cells_len l
theorem itc_get (l : List It) (k j : Nat) (hk : k < l.length) (hj : j < 5) : (itc l)[k * 5 + j]? = (l[k]).cells[j]? := gflat_get It.cells 5 It.cells_len l k j hk hj
theorem itc_append (a b : List It) : itc (a ++ b) = itc a ++ itc b := by simp [itc]
theorem itc_one (l : List It) : ∀ u ∈ itc l, u.oneCell' = true := by
 intro u hu
 simp only [itc, List.mem_flatMap, It.cells, List.mem_cons, List.not_mem_nil, or_false] at hu
 obtain ⟨a, _, rfl | rfl | rfl | rfl | rfl⟩ := hu <;> rfl
theorem itc_take (l : List It) (k : Nat) : itc (l.take k) = (itc l).take (k * 5) := by
 induction l generalizing k with
 | nil => simp [itc]
 | cons a l ih =>
  cases k with
  | zero => simp [itc]
  | succ k =>
   have e : (k + 1) * 5 = k * 5 + 5 := by omega
   have h := ih k
   unfold itc at h ⊢
   rw [List.take_succ_cons, List.flatMap_cons, List.flatMap_cons, h, e]
   rfl
theorem itc_drop (l : List It) (k : Nat) : itc (l.drop k) = (itc l).drop (k * 5) := by
 induction l generalizing k with
 | nil => simp [itc]
 | cons a l ih =>
  cases k with
  | zero => simp [itc]
  | succ k =>
   have e : (k + 1) * 5 = k * 5 + 5 := by omega
   have h := ih k
   unfold itc at h ⊢
   rw [List.drop_succ_cons, List.flatMap_cons, h, e]
   rfl
structure ItAt (w : World) (a : Addr) (k : Nat) (x : It) : Prop where
 c0 : w.cell? (a.add (k * 5)) = some (.int .i64 x.s)
 c1 : w.cell? ⟨(a.add (k * 5)).block, (a.add (k * 5)).off + 1, none⟩ = some (.int .i64 x.k)
 c2 : w.cell? ⟨(a.add (k * 5)).block, (a.add (k * 5)).off + 2, none⟩ = some (.int .u64 (x.t : Int))
 c3 : w.cell? ⟨(a.add (k * 5)).block, (a.add (k * 5)).off + 3, none⟩ = some (.int .u64 (x.v : Int))
 c4 : w.cell? ⟨(a.add (k * 5)).block, (a.add (k * 5)).off + 4, none⟩ = some (.int .i64 x.x)
variable {B B' n : Nat} {w w' : World} {A : Option Addr} {xs : List It}
theorem Row.itlen (h : Row B w A n 5 (itc xs)) : xs.length = n := by
 have := h.len
 rw [itc_length] at this
 omega
theorem Row.it (h : Row B w A n 5 (itc xs)) {k : Nat} (hk : k < n) : ∃ a, ∃ hl : k < xs.length, A = some a ∧ a.block < B ∧ ItAt w a k xs[k] := by
 have hl : k < xs.length := by have := h.itlen; omega
 have g := fun j (hj : j < 5) => itc_get xs k j hl hj
 obtain ⟨a, ea, hb, c0⟩ := row_cell h (g 0 (by omega))
 have cd : ∀ j v, 0 < j → j < 5 → (It.cells xs[k])[j]? = some v → w.cell? ⟨(a.add (k * 5)).block, (a.add (k * 5)).off + j, none⟩ = some v := fun j v h0 hj hv => by
  obtain ⟨a', ea', _, c⟩ := row_cell h ((g j hj).trans hv)
  rw [ea] at ea'
  injection ea' with ea'
  subst ea'
  rw [← iadd_at a (k * 5) h0]
  exact c
 exact ⟨a, hl, ea, hb, ⟨c0, cd 1 _ (by omega) (by omega) rfl, cd 2 _ (by omega) (by omega) rfl, cd 3 _ (by omega) (by omega) rfl, cd 4 _ (by omega) (by omega) rfl⟩⟩
theorem ItAt.below {a : Addr} {k : Nat} {x : It} (h : ItAt w a k x) (ha : a.block < B) (hb : Below B w w') : ItAt w' a k x := by
 have e : (a.add (k * 5)).block < B := by rw [add_block]; exact ha
 exact ⟨(hb.cell e).trans h.c0, (hb.cell (p := ⟨(a.add (k * 5)).block, (a.add (k * 5)).off + 1, none⟩) e).trans h.c1, (hb.cell (p := ⟨(a.add (k * 5)).block, (a.add (k * 5)).off + 2, none⟩) e).trans h.c2, (hb.cell (p := ⟨(a.add (k * 5)).block, (a.add (k * 5)).off + 3, none⟩) e).trans h.c3, (hb.cell (p := ⟨(a.add (k * 5)).block, (a.add (k * 5)).off + 4, none⟩) e).trans h.c4⟩
theorem Row.itcut (h : Row B w A n 5 (itc xs)) {k m : Nat} (hk : k ≤ m) (hm : m ≤ n) {A' : Option Addr} (hA : k < m → A' = A.map (·.add (k * 5))) : Row B w A' (m - k) 5 (itc ((xs.drop k).take (m - k))) := by
 have := h.cut hk hm hA
 rwa [itc_take, itc_drop]
end
section
open Go Go.RowKit
theorem iless_any (a b : It) (w : World) : Calls Tryz.prog 139 #[a.val, b.val] w fun e w' => e = .returned (.bool (a.less b)) ∧ Below w.heap.size w w' := by
 obtain ⟨s1, k1, t1, v1, x1⟩ := a
 obtain ⟨s2, k2, t2, v2, x2⟩ := b
 have hb0 := ((Below.refl w.heap.size w).alloc (Nat.le_refl _) (.cells #[.int .i64 s1, .int .i64 k1, .int .u64 (t1 : Int), .int .u64 (v1 : Int), .int .i64 x1] 27)).alloc (by simp) (.cells #[.int .i64 s2, .int .i64 k2, .int .u64 (t2 : Int), .int .u64 (v2 : Int), .int .i64 x2] 27)
 obtain ⟨r, hr⟩ : ∃ r, r = It.less ⟨s1, k1, t1, v1, x1⟩ ⟨s2, k2, t2, v2, x2⟩ := ⟨_, rfl⟩
 rw [← hr]
 unfold It.less at hr
 unfold It.val
 simp only at hr ⊢
 by_cases h1 : s1 = s2
 ·subst h1
  by_cases h2 : k1 = k2
  ·subst h2
   by_cases h3 : (t1 : Int) < (t2 : Int)
   ·have h4 : t1 < t2 := by omega
    have HB := Lib.hid (hr.trans (show _ = true by simp [h4]))
    clear hr
    go_enter Tryz.func139, Tryz.ntmps139
    go_wp2
    go_ret
    exact ⟨ret_bo HB.out.symm, hb0⟩
   ·have h4 : ¬ t1 < t2 := by omega
    have HB := Lib.hid (hr.trans (show _ = false by simp [h4]))
    clear hr
    go_enter Tryz.func139, Tryz.ntmps139
    go_wp2
    go_ret
    exact ⟨ret_bo HB.out.symm, hb0⟩
  ·have e2 : (k1 == k2) = false := by simpa using h2
   by_cases h3 : k1 < k2
   ·have HB := Lib.hid (hr.trans (show _ = true by simp [h2, h3]))
    clear hr
    go_enter Tryz.func139, Tryz.ntmps139
    go_wp2
    go_ret
    exact ⟨ret_bo HB.out.symm, hb0⟩
   ·have HB := Lib.hid (hr.trans (show _ = false by simp [h2, h3]))
    clear hr
    go_enter Tryz.func139, Tryz.ntmps139
    go_wp2
    go_ret
    exact ⟨ret_bo HB.out.symm, hb0⟩
 ·have e1 : (s1 == s2) = false := by simpa using h1
  by_cases h3 : s1 < s2
  ·have HB := Lib.hid (hr.trans (show _ = true by simp [h1, h3]))
   clear hr
   go_enter Tryz.func139, Tryz.ntmps139
   go_wp2
   go_ret
   exact ⟨ret_bo HB.out.symm, hb0⟩
  ·have HB := Lib.hid (hr.trans (show _ = false by simp [h1, h3]))
   clear hr
   go_enter Tryz.func139, Tryz.ntmps139
   go_wp2
   go_ret
   exact ⟨ret_bo HB.out.symm, hb0⟩
theorem iwins_any (a b : It) (w : World) : Calls Tryz.prog 141 #[a.val, b.val] w fun e w' => e = .returned (.bool (a.wins b)) ∧ Below w.heap.size w w' := by
 obtain ⟨s1, k1, t1, v1, x1⟩ := a
 obtain ⟨s2, k2, t2, v2, x2⟩ := b
 have hb0 := ((Below.refl w.heap.size w).alloc (Nat.le_refl _) (.cells #[.int .i64 s1, .int .i64 k1, .int .u64 (t1 : Int), .int .u64 (v1 : Int), .int .i64 x1] 27)).alloc (by simp) (.cells #[.int .i64 s2, .int .i64 k2, .int .u64 (t2 : Int), .int .u64 (v2 : Int), .int .i64 x2] 27)
 obtain ⟨r, hr⟩ : ∃ r, r = It.wins ⟨s1, k1, t1, v1, x1⟩ ⟨s2, k2, t2, v2, x2⟩ := ⟨_, rfl⟩
 rw [← hr]
 unfold It.wins at hr
 unfold It.val
 simp only at hr ⊢
 by_cases h1 : (v2 : Int) < (v1 : Int)
 ·have h4 : v2 < v1 := by omega
  have HB := Lib.hid (hr.trans (show _ = true by simp [h4]))
  clear hr
  go_enter Tryz.func141, Tryz.ntmps141
  go_wp2
  go_ret
  exact ⟨ret_bo HB.out.symm, hb0⟩
 ·have h4 : ¬ v2 < v1 := by omega
  by_cases h2 : v1 = v2
  ·subst h2
   by_cases h3 : x2 < x1
   ·have HB := Lib.hid (hr.trans (show _ = true by simp [h3]))
    clear hr
    go_enter Tryz.func141, Tryz.ntmps141
    go_wp2
    go_ret
    exact ⟨ret_bo HB.out.symm, hb0⟩
   ·have HB := Lib.hid (hr.trans (show _ = false by simp [h3]))
    clear hr
    go_enter Tryz.func141, Tryz.ntmps141
    go_wp2
    go_ret
    exact ⟨ret_bo HB.out.symm, hb0⟩
  ·have e2 : ((v1 : Int) == (v2 : Int)) = false := by rw [beq_eq_false_iff_ne]; omega
   have HB := Lib.hid (hr.trans (show _ = false by simp [h4, h2]))
   clear hr
   go_enter Tryz.func141, Tryz.ntmps141
   go_wp2
   go_ret
   exact ⟨ret_bo HB.out.symm, hb0⟩
theorem ihides_any (a b : It) (w : World) : Calls Tryz.prog 154 #[a.val, b.val] w fun e w' => e = .returned (.bool (a.hides b)) ∧ Below w.heap.size w w' := by
 obtain ⟨s1, k1, t1, v1, x1⟩ := a
 obtain ⟨s2, k2, t2, v2, x2⟩ := b
 have hb0 := ((Below.refl w.heap.size w).alloc (Nat.le_refl _) (.cells #[.int .i64 s1, .int .i64 k1, .int .u64 (t1 : Int), .int .u64 (v1 : Int), .int .i64 x1] 27)).alloc (by simp) (.cells #[.int .i64 s2, .int .i64 k2, .int .u64 (t2 : Int), .int .u64 (v2 : Int), .int .i64 x2] 27)
 obtain ⟨r, hr⟩ : ∃ r, r = It.hides ⟨s1, k1, t1, v1, x1⟩ ⟨s2, k2, t2, v2, x2⟩ := ⟨_, rfl⟩
 rw [← hr]
 unfold It.hides at hr
 unfold It.val
 simp only at hr ⊢
 by_cases h1 : k1 = 1
 ·subst h1
  by_cases h2 : k2 = 2
  ·subst h2
   by_cases h3 : s1 = s2
   ·subst h3
    by_cases h4 : (v2 : Int) ≤ (v1 : Int)
    ·have h5 : v2 ≤ v1 := by omega
     have HB := Lib.hid (hr.trans (show _ = true by simp [h5]))
     clear hr
     go_enter Tryz.func154, Tryz.ntmps154
     go_wp2
     go_ret
     exact ⟨ret_bo HB.out.symm, hb0⟩
    ·have h5 : ¬ v2 ≤ v1 := by omega
     have HB := Lib.hid (hr.trans (show _ = false by simp [h5]))
     clear hr
     go_enter Tryz.func154, Tryz.ntmps154
     go_wp2
     go_ret
     exact ⟨ret_bo HB.out.symm, hb0⟩
   ·have e3 : (s1 == s2) = false := by simpa using h3
    have HB := Lib.hid (hr.trans (show _ = false by simp [h3]))
    clear hr
    go_enter Tryz.func154, Tryz.ntmps154
    go_wp2
    go_ret
    exact ⟨ret_bo HB.out.symm, hb0⟩
  ·have e2 : (k2 == 2) = false := by simpa using h2
   have HB := Lib.hid (hr.trans (show _ = false by simp [h2]))
   clear hr
   go_enter Tryz.func154, Tryz.ntmps154
   go_wp2
   go_ret
   exact ⟨ret_bo HB.out.symm, hb0⟩
 ·have e1 : (k1 == 1) = false := by simpa using h1
  have HB := Lib.hid (hr.trans (show _ = false by simp [h1]))
  clear hr
  go_enter Tryz.func154, Tryz.ntmps154
  go_wp2
  go_ret
  exact ⟨ret_bo HB.out.symm, hb0⟩
theorem isame_any (a b : It) (w : World) : Calls Tryz.prog 140 #[a.val, b.val] w fun e w' => e = .returned (.bool (a.same b)) ∧ Below w.heap.size w w' := by
 obtain ⟨s1, k1, t1, v1, x1⟩ := a
 obtain ⟨s2, k2, t2, v2, x2⟩ := b
 have hb0 := ((Below.refl w.heap.size w).alloc (Nat.le_refl _) (.cells #[.int .i64 s1, .int .i64 k1, .int .u64 (t1 : Int), .int .u64 (v1 : Int), .int .i64 x1] 27)).alloc (by simp) (.cells #[.int .i64 s2, .int .i64 k2, .int .u64 (t2 : Int), .int .u64 (v2 : Int), .int .i64 x2] 27)
 have hl := fun W => iless_any ⟨s1, k1, t1, v1, x1⟩ ⟨s2, k2, t2, v2, x2⟩ W
 have hl2 := fun W => iless_any ⟨s2, k2, t2, v2, x2⟩ ⟨s1, k1, t1, v1, x1⟩ W
 unfold It.val It.same
 unfold It.val at hl hl2
 simp only at hl hl2 ⊢
 generalize It.less ⟨s1, k1, t1, v1, x1⟩ ⟨s2, k2, t2, v2, x2⟩ = p at *
 generalize It.less ⟨s2, k2, t2, v2, x2⟩ ⟨s1, k1, t1, v1, x1⟩ = q at *
 have HL := Lib.hid hl
 have HL2 := Lib.hid hl2
 have hA := (BoxO.new w #[.int .i64 s1, .int .i64 k1, .int .u64 (t1 : Int), .int .u64 (v1 : Int), .int .i64 x1] 27).alloc (.cells #[.int .i64 s2, .int .i64 k2, .int .u64 (t2 : Int), .int .u64 (v2 : Int), .int .i64 x2] 27)
 have hB := BoxO.new (w.alloc (.cells #[.int .i64 s1, .int .i64 k1, .int .u64 (t1 : Int), .int .u64 (v1 : Int), .int .i64 x1] 27)) #[.int .i64 s2, .int .i64 k2, .int .u64 (t2 : Int), .int .u64 (v2 : Int), .int .i64 x2] 27
 rw [World.size_alloc] at hB
 clear hl hl2
 cases p with
 | true =>
  clear hA hB HL2
  go_enter Tryz.func140, Tryz.ntmps140
  go_wp2_with fail
  refine (HL.out _).mono ?_
  rintro e w1 ⟨rfl, hb1⟩
  have hbz := later_ hb0 hb1
  go_wp2
  go_ret
  exact ⟨rfl, hbz⟩
 | false =>
  go_enter Tryz.func140, Tryz.ntmps140
  go_wp2_with fail
  refine (HL.out _).mono ?_
  rintro e w1 ⟨rfl, hb1⟩
  have hbz := later_ hb0 hb1
  have kA := hA.below hb1
  have kB := hB.below hb1
  have a0 := kA.cell 0
  have a1 := kA.cell 1
  have a2 := kA.cell 2
  have a3 := kA.cell 3
  have a4 := kA.cell 4
  have b0 := kB.cell 0
  have b1 := kB.cell 1
  have b2 := kB.cell 2
  have b3 := kB.cell 3
  have b4 := kB.cell 4
  simp only [gE0, gE1] at a0 a1 a2 a3 a4 b0 b1 b2 b3 b4
  clear hA hB kA kB HL
  go_wp2_with fail
  refine (HL2.out _).mono ?_
  rintro e w2 ⟨rfl, hb2⟩
  have hby := later_ hbz hb2
  cases q
  all_goals
   go_wp2
   go_ret
   exact ⟨rfl, hby⟩
theorem iok_any (a : It) (w : World) : Calls Tryz.prog 78 #[a.val] w fun e w' => e = .returned (.bool a.ok) ∧ Below w.heap.size w w' := by
 obtain ⟨s1, k1, t1, v1, x1⟩ := a
 have hb0 := (Below.refl w.heap.size w).alloc (Nat.le_refl _) (.cells #[.int .i64 s1, .int .i64 k1, .int .u64 (t1 : Int), .int .u64 (v1 : Int), .int .i64 x1] 27)
 obtain ⟨r, hr⟩ : ∃ r, r = It.ok ⟨s1, k1, t1, v1, x1⟩ := ⟨_, rfl⟩
 rw [← hr]
 unfold It.ok at hr
 unfold It.val
 simp only at hr ⊢
 by_cases h1 : s1 < 0
 ·have g1 : ¬ 0 ≤ s1 := by omega
  have HB := Lib.hid (hr.trans (show _ = false by simp [g1]))
  clear hr
  go_enter Tryz.func78, Tryz.ntmps78
  go_wp2
  go_ret
  exact ⟨ret_bo HB.out.symm, hb0⟩
 have g1 : 0 ≤ s1 := by omega
 by_cases h2 : 255 < s1
 ·have g2 : ¬ s1 ≤ 255 := by omega
  have HB := Lib.hid (hr.trans (show _ = false by simp [g2]))
  clear hr
  go_enter Tryz.func78, Tryz.ntmps78
  go_wp2
  go_ret
  exact ⟨ret_bo HB.out.symm, hb0⟩
 have g2 : s1 ≤ 255 := by omega
 by_cases h3 : (v1 : Int) < 1
 ·have g3 : ¬ 1 ≤ v1 := by omega
  have HB := Lib.hid (hr.trans (show _ = false by simp [g3]))
  clear hr
  go_enter Tryz.func78, Tryz.ntmps78
  go_wp2
  go_ret
  exact ⟨ret_bo HB.out.symm, hb0⟩
 have g3 : 1 ≤ v1 := by omega
 by_cases h4 : 281474976710656 < (v1 : Int)
 ·have g4 : ¬ v1 ≤ 281474976710656 := by omega
  have HB := Lib.hid (hr.trans (show _ = false by simp [g4]))
  clear hr
  go_enter Tryz.func78, Tryz.ntmps78
  go_wp2
  go_ret
  exact ⟨ret_bo HB.out.symm, hb0⟩
 have g4 : v1 ≤ 281474976710656 := by omega
 by_cases h5 : k1 = 1
 ·subst h5
  by_cases h6 : t1 = 0
  ·subst h6
   by_cases h7 : x1 = 0
   ·subst h7
    have HB := Lib.hid (hr.trans (show _ = true by simp [g1, g2, g3, g4]))
    clear hr
    go_enter Tryz.func78, Tryz.ntmps78
    go_wp2
    go_ret
    exact ⟨ret_bo HB.out.symm, hb0⟩
   ·have e7 : (x1 == 0) = false := by simpa using h7
    have HB := Lib.hid (hr.trans (show _ = false by simp [h7]))
    clear hr
    go_enter Tryz.func78, Tryz.ntmps78
    go_wp2
    go_ret
    exact ⟨ret_bo HB.out.symm, hb0⟩
  ·have e6 : ((t1 : Int) == 0) = false := by rw [beq_eq_false_iff_ne]; omega
   have HB := Lib.hid (hr.trans (show _ = false by simp [h6]))
   clear hr
   go_enter Tryz.func78, Tryz.ntmps78
   go_wp2
   go_ret
   exact ⟨ret_bo HB.out.symm, hb0⟩
 have e5 : (k1 == 1) = false := by simpa using h5
 by_cases h8 : k1 = 2
 ·subst h8
  by_cases h9 : (t1 : Int) ≤ 1099511627776
  ·have g9 : t1 ≤ 1099511627776 := by omega
   have HB := Lib.hid (hr.trans (show _ = true by simp [g1, g2, g3, g4, g9]))
   clear hr
   go_enter Tryz.func78, Tryz.ntmps78
   go_wp2
   go_ret
   exact ⟨ret_bo HB.out.symm, hb0⟩
  ·have g9 : ¬ t1 ≤ 1099511627776 := by omega
   have HB := Lib.hid (hr.trans (show _ = false by simp [g9]))
   clear hr
   go_enter Tryz.func78, Tryz.ntmps78
   go_wp2
   go_ret
   exact ⟨ret_bo HB.out.symm, hb0⟩
 have e8 : (k1 == 2) = false := by simpa using h8
 have HB := Lib.hid (hr.trans (show _ = false by simp [h5, h8]))
 clear hr
 go_enter Tryz.func78, Tryz.ntmps78
 go_wp2
 go_ret
 exact ⟨ret_bo HB.out.symm, hb0⟩
end
section
open It
structure Nd where
 x : It
 b : Nat
 tb : Nat
 h : Nat
 c : Nat
def nxt (h : Nat) (l : List Nd) : Option Nd := l.find? fun n => decide (h < n.h)
def nxb (h : Nat) (l : List Nd) : Option Nat := (nxt h l).map (·.b)
variable {ns : List Nd} {i h q j k : Nat} {n : Nd} {x : It}
theorem nxt_some (e : nxt h (ns.drop (i + 1)) = some n) : ∃ k, i < k ∧ ns[k]? = some n ∧ h < n.h ∧ ∀ m n', i < m → m < k → ns[m]? = some n' → n'.h ≤ h := by
 obtain ⟨h1, as1, bs, h2, h3⟩ := List.find?_eq_some_iff_append.1 e
 have hg : ∀ m, ns[i + 1 + m]? = (as1 ++ n :: bs)[m]? := fun m => by rw [← h2, List.getElem?_drop]
 refine ⟨i + 1 + as1.length, by omega, by rw [hg, List.getElem?_append_right (by omega)]; simp, by simpa using h1, fun m n' h4 h5 h6 => ?_⟩
 obtain ⟨d, rfl⟩ : ∃ d, m = i + 1 + d := ⟨m - (i + 1), by omega⟩
 rw [hg, List.getElem?_append_left (by omega)] at h6
 have := h3 n' (List.mem_of_getElem? h6)
 simpa using this
theorem nxt_none (e : nxt h (ns.drop (i + 1)) = none) : ∀ m n', i < m → ns[m]? = some n' → n'.h ≤ h := by
 intro m n' h4 h6
 obtain ⟨d, rfl⟩ : ∃ d, m = i + 1 + d := ⟨m - (i + 1), by omega⟩
 have hm : n' ∈ ns.drop (i + 1) := List.mem_of_getElem? (i := d) (by rw [List.getElem?_drop]; exact h6)
 simpa using List.find?_eq_none.1 e n' hm
structure Pred (ns : List Nd) (h q j : Nat) : Prop where
 lt : j < q
 on : ∃ n, ns[j]? = some n ∧ h < n.h
 last : ∀ i n, j < i → i < q → ns[i]? = some n → n.h ≤ h
def its (ns : List Nd) : List It := (ns.drop 1).map (·.x)
theorem its_get (k : Nat) : (its ns)[k]? = (ns[k + 1]?).map (·.x) := by
 unfold its
 rw [List.getElem?_map, List.getElem?_drop, Nat.add_comm]
theorem its_pos (hr : Rises (its ns)) (hk : 0 < k) (e : ns[k]? = some n) : less n.x x = decide (k < pos (its ns) x + 1) := by
 obtain ⟨m, rfl⟩ : ∃ m, k = m + 1 := ⟨k - 1, by omega⟩
 have hg : (its ns)[m]? = some n.x := by rw [its_get, e]; rfl
 obtain ⟨h1, h2⟩ := split_pos hr x
 have hm : m < (its ns).length := (List.getElem?_eq_some_iff.1 hg).1
 cases hl : less n.x x with
 | true =>
  refine (decide_eq_true ?_).symm
  apply Classical.byContradiction
  intro hn
  have : n.x ∈ (its ns).drop (pos (its ns) x) := List.mem_of_getElem? (i := m - pos (its ns) x) (by rw [List.getElem?_drop, ← hg]; congr 1; omega)
  rw [h2] at this
  have := (List.mem_filter.1 this).2
  rw [hl] at this
  cases this
 | false =>
  refine (decide_eq_false fun hn => ?_).symm
  have : n.x ∈ (its ns).take (pos (its ns) x) := List.mem_of_getElem? (i := m) (by rw [List.getElem?_take, if_pos (by omega), hg])
  rw [h1] at this
  have := (List.mem_filter.1 this).2
  rw [hl] at this
  cases this
theorem Pred.low (hp : Pred ns 0 q j) (hq : q ≤ ns.length) (h1 : ∀ n ∈ ns, 1 ≤ n.h) : j + 1 = q := by
 apply Classical.byContradiction
 intro hn
 have hlt := hp.lt
 have hl : j + 1 < ns.length := by omega
 have := hp.last (j + 1) ns[j + 1] (by omega) (by omega) (List.getElem?_eq_getElem hl)
 have := h1 _ (List.getElem_mem hl)
 omega
theorem nxb_skip {A R : List Nd} (h0 : ∀ n ∈ A, n.h ≤ h) : nxb h (A ++ R) = nxb h R := by
 unfold nxb nxt
 rw [List.find?_append, List.find?_eq_none.2 (fun n hn => by have := h0 n hn; simpa using this)]
 simp
theorem nxb_stop {A R R' : List Nd} (h0 : ∃ n ∈ A, h < n.h) : nxb h (A ++ R) = nxb h (A ++ R') := by
 unfold nxb nxt
 rw [List.find?_append, List.find?_append]
 obtain ⟨n, hn, hh⟩ := h0
 cases e : A.find? fun n => decide (h < n.h) with
 | none =>
  have := List.find?_eq_none.1 e n hn
  simp at this
  omega
 | some m => simp
theorem nxb_same {A R : List Nd} {n n' : Nd} (hb : n'.b = n.b) (hh : h < n'.h ↔ h < n.h) : nxb h (A ++ n' :: R) = nxb h (A ++ n :: R) := by
 unfold nxb nxt
 rw [List.find?_append, List.find?_append]
 cases e : A.find? fun n => decide (h < n.h) with
 | none =>
  simp only [Option.none_or, List.find?_cons]
  by_cases h1 : h < n.h
  ·simp [h1, hh.2 h1, hb]
  ·have h2 : ¬ h < n'.h := fun h => h1 (hh.1 h)
   simp [h1, h2]
 | some m => simp
theorem nxb_add {A R : List Nd} {n : Nd} (hn : n.h = 0) : nxb h (A ++ n :: R) = nxb h (A ++ R) := by
 unfold nxb nxt
 rw [List.find?_append, List.find?_append]
 simp [List.find?_cons, hn]
theorem Pred.seg {A R : List Nd} (hp : Pred (A ++ R) h A.length j) : ∀ m ∈ A.drop (j + 1), m.h ≤ h := by
 intro m hm
 obtain ⟨i, hi, rfl⟩ := List.getElem_of_mem hm
 rw [List.length_drop] at hi
 rw [List.getElem_drop]
 exact hp.last (j + 1 + i) _ (by omega) (by omega) (by rw [List.getElem?_append_left (by omega)]; exact List.getElem?_eq_getElem (by omega))
theorem raise {A R : List Nd} {n n' : Nd} (hj : Pred (A ++ n :: R) h A.length j) (hn : n.h = h) (hn' : n'.h = h + 1) (hb : n'.b = n.b) (i l : Nat) (m : Nd) (hm : (A ++ n' :: R)[i]? = some m) (hl : l < m.h) :
  nxb l ((A ++ n' :: R).drop (i + 1)) = if i = j ∧ l = h then some n.b else if i = A.length ∧ l = h then nxb l ((A ++ n :: R).drop (j + 1)) else nxb l ((A ++ n :: R).drop (i + 1)) := by
 rcases Nat.lt_trichotomy i A.length with h1 | h1 | h1
 ·have e : ∀ n : Nd, (A ++ n :: R).drop (i + 1) = A.drop (i + 1) ++ n :: R := fun n => by rw [List.drop_append_of_le_length (by omega)]
  rw [List.getElem?_append_left h1] at hm
  by_cases h2 : l = h
  ·subst h2
   by_cases h3 : i = j
   ·subst h3
    rw [if_pos ⟨rfl, rfl⟩, e, nxb_skip hj.seg]
    unfold nxb nxt
    simp [List.find?_cons, hn', hb]
   ·rw [if_neg (by simp [h3]), if_neg (by omega), e, e]
    rcases Nat.lt_or_gt_of_ne h3 with h4 | h4
    ·obtain ⟨p, hp, hh⟩ := hj.on
     have := hj.lt
     rw [List.getElem?_append_left hj.lt] at hp
     exact nxb_stop ⟨p, List.mem_of_getElem? (i := j - (i + 1)) (by rw [List.getElem?_drop, ← hp]; congr 1; omega), hh⟩
    ·exfalso
     have := hj.last i m h4 h1 (by rw [List.getElem?_append_left h1]; exact hm)
     omega
  ·rw [if_neg (by simp [h2]), if_neg (by simp [h2]), e, e]
   exact nxb_same hb (by omega)
 ·subst h1
  have hlt := hj.lt
  rw [List.getElem?_append_right (Nat.le_refl _), Nat.sub_self, gE0] at hm
  injection hm with hm
  subst hm
  have e : ∀ n : Nd, (A ++ n :: R).drop (A.length + 1) = R := fun n => by
   rw [← List.drop_drop, List.drop_left]
   rfl
  by_cases h2 : l = h
  ·subst h2
   rw [if_neg (by omega), if_pos ⟨rfl, rfl⟩, e]
   have e2 : (A ++ n :: R).drop (j + 1) = (A.drop (j + 1) ++ [n]) ++ R := by rw [List.drop_append_of_le_length (by omega)]; simp
   rw [e2, nxb_skip]
   intro m hm
   rcases List.mem_append.1 hm with h3 | h3
   ·exact hj.seg m h3
   ·rw [List.mem_singleton.1 h3, hn]
    exact Nat.le_refl _
  ·rw [if_neg (by simp [h2]), if_neg (by simp [h2]), e, e]
 ·have hlt := hj.lt
  have e : ∀ n : Nd, (A ++ n :: R).drop (i + 1) = R.drop (i - A.length) := fun n => by
   rw [List.drop_append, List.drop_eq_nil_of_le (by omega), List.nil_append]
   have : i + 1 - A.length = (i - A.length) + 1 := by omega
   rw [this, List.drop_succ_cons]
  rw [if_neg (by omega), if_neg (by omega), e, e]
theorem its_insert {A R : List Nd} {n : Nd} (hA : 0 < A.length) : its (A ++ n :: R) = (its (A ++ R)).take (A.length - 1) ++ n.x :: (its (A ++ R)).drop (A.length - 1) := by
 unfold its
 rw [List.drop_append_of_le_length (by omega), List.drop_append_of_le_length (by omega), List.map_append, List.map_append, List.map_cons]
 have hl : ((A.drop 1).map (·.x)).length = A.length - 1 := by simp
 rw [← hl, List.take_left, List.drop_left]
end
section
open Go Go.RowKit Go.Lib
theorem run_call_loadp {P : Program} {f : FuncId} {fn : Func} (hf : P.funcs[f]? = some fn) (hname : (fn.name == "runtime.NumGoroutine") = false) (hb : fn.body.isNone = true) (hn : Extern.findNext fn = none)
  (he : Extern.find fn = some (Extern.Atomic.loadT .ptr)) {a : Addr} {x : Option Addr} {w : World} (hc : w.cell? a = some (.pointer x)) :
  (callFunc f #[.pointer (some a)]).run P w = .ok (.value (.pointer x)) w := by
 rw [run_callFunc_extern hf hname hb hn he]
 change (Sem.run P (do Extern.Atomic.read .ptr (← asAddr (.pointer (some a)))) w).andThen _ = _
 simp [Extern.Atomic.read, asAddr, hc, Result.andThen]
theorem run_call_storep {P : Program} {f : FuncId} {fn : Func} (hf : P.funcs[f]? = some fn) (hname : (fn.name == "runtime.NumGoroutine") = false) (hb : fn.body.isNone = true) (hn : Extern.findNext fn = none)
  (he : Extern.find fn = some Extern.Atomic.storeT) {a : Addr} {y : Option Addr} {u : Value} {w : World} (hc : w.cell? a = some u) (hz : w.frozen? a = false) :
  (callFunc f #[.pointer (some a), .pointer y]).run P w = .ok (.value (.tuple #[])) (w.setCell a (.pointer y)) := by
 rw [run_callFunc_extern hf hname hb hn he]
 change (Sem.run P (do
  store (← asAddr (.pointer (some a))) (.pointer y) .atomic
  pure Extern.Atomic.none_) w).andThen _ = _
 simp [asAddr, hc, hz, run_store P w a (.pointer y) .atomic rfl, Result.andThen, Extern.Atomic.none_]
theorem conv_nil (w : World) : (convert 233 229 (.pointer none)).run Tryz.prog w = .ok (.pointer none) w := by
 have h1 : Tryz.prog.underlying 233 = some .unsafePointer := by kernel_rfl
 have h2 : Tryz.prog.underlying 229 = some (.pointer 238) := by kernel_rfl
 simp [convert, Conv.unsafePointer, run_underlying h1, run_underlying h2, Result.andThen]
theorem conv_some {w : World} {b : Nat} {xs : List Value} (h : BoxO w 238 b xs) (hl : xs.length = 6) : (convert 233 229 (.pointer (some ⟨b, 0, none⟩))).run Tryz.prog w = .ok (.pointer (some ⟨b, 0, none⟩)) w := by
 have h1 : Tryz.prog.underlying 233 = some .unsafePointer := by kernel_rfl
 have h2 : Tryz.prog.underlying 229 = some (.pointer 238) := by kernel_rfl
 have h3 : liesAt Tryz.prog Tryz.prog.depth 238 (6 / Tryz.prog.cellsOf 238) 0 238 1 = true := by kernel_rfl
 have h4 : w.shape? b = some (238, 6) := by
  unfold World.shape?
  rw [h]
  simp [hl]
 simp [convert, Conv.unsafePointer, Conv.seenAt, viewAt, variablesAt, run_underlying h1, run_underlying h2, h4, h3, Result.andThen]
def NdPtr (w : World) : Option Addr → Prop
 | none => True
 | some a => ∃ b xs, a = ⟨b, 0, none⟩ ∧ BoxO w 238 b xs ∧ xs.length = 6
theorem conv_of {w : World} {v : Option Addr} (h : NdPtr w v) : (convert 233 229 (.pointer v)).run Tryz.prog w = .ok (.pointer v) w := by
 cases v with
 | none => exact conv_nil w
 | some a =>
  obtain ⟨b, xs, rfl, h1, h2⟩ := h
  exact conv_some h1 h2
theorem conv_to {w : World} {v : Option Addr} (h : NdPtr w v) : (convert 229 233 (.pointer v)).run Tryz.prog w = .ok (.pointer v) w := by
 have h1 : Tryz.prog.underlying 233 = some .unsafePointer := by kernel_rfl
 have h2 : Tryz.prog.underlying 229 = some (.pointer 238) := by kernel_rfl
 cases v with
 | none => simp [convert, Conv.unsafePointer, run_underlying h1, run_underlying h2, Result.andThen]
 | some a =>
  obtain ⟨b, xs, rfl, h3, h4⟩ := h
  have hc : w.cell? ⟨b, 0, none⟩ = some (xs[0]'(by omega)) := by rw [h3.cell]; exact List.getElem?_eq_getElem _
  exact run_convert_to_unsafe (P := Tryz.prog) h2 h1 (by kernel_rfl) hc
theorem apload_any (g j : Nat) (v : Option Addr) (w : World) (hc : w.cell? ⟨g, j, none⟩ = some (.pointer v)) (hv : NdPtr w v) :
  Calls Tryz.prog 162 #[.pointer (some ⟨g, j, none⟩)] w fun e w' => e = .returned (.pointer v) ∧ w' = w := by
 have hld := run_call_loadp (P := Tryz.prog) Tryz.func212 (by kernel_rfl) (by kernel_rfl) (by kernel_rfl) (by kernel_rfl) hc
 have hcv := conv_of hv
 go_enter Tryz.func162, Tryz.ntmps162
 go_wp2
 go_ret
 exact ⟨rfl, rfl⟩
theorem apstore_any (g j : Nat) (u : Value) (v : Option Addr) (w : World) (hc : w.cell? ⟨g, j, none⟩ = some u) (hz : w.frozen? ⟨g, j, none⟩ = false) (hv : NdPtr w v) :
  Calls Tryz.prog 164 #[.pointer (some ⟨g, j, none⟩), .pointer v] w fun e w' => e = .returned (.tuple #[]) ∧ w' = w.setCell ⟨g, j, none⟩ (.pointer v) := by
 have hst := run_call_storep (P := Tryz.prog) Tryz.func213 (by kernel_rfl) (by kernel_rfl) (by kernel_rfl) (by kernel_rfl) (y := v) hc hz
 have hcv := conv_to hv
 go_enter Tryz.func164, Tryz.ntmps164
 go_wp2
 exact bodyPost_end (v := .tuple #[]) (by simp [results, go_sem]) rfl ⟨rfl, rfl⟩
end
end Go.Proofs.YtdkjoigpahafmaaGreatDoor
