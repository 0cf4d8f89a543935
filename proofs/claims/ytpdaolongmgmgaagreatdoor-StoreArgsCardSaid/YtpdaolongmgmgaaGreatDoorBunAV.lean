/- Texts HasA, HasB in one. No conditions. -/
import Derived.Test.YtpdaolongmgmgaaGreatDoorBunAU
import Derived.Test.YtpdaolongmgmgaaGreatDoorBunAJ
import Derived.MapKept
import Derived.ChangeMaps4
import Derived.Test.YtpdaolongmgmgaaGreatDoorBunAK

namespace Go.Proofs.YtpdaolongmgmgaaGreatDoor
open Go Go.RowKit Go.Lib
theorem it_equal (x y : It) (w : World) : (Op.equal 41 (.agg #[.int .i64 x.s, .int .i64 x.k, .int .u64 (x.t : Int), .int .u64 (x.v : Int), .int .i64 x.x]) (.agg #[.int .i64 y.s, .int .i64 y.k, .int .u64 (y.t : Int), .int .u64 (y.v : Int), .int .i64 y.x])).run Tryz.prog w = .ok (decide (x = y)) w := by
 have u3 := Tryz.underlying3
 have a3 := Tryz.isAgg3
 have z3 := Tryz.sizeOf3
 have u4 := Tryz.underlying39
 have a4 := Tryz.isAgg39
 have z4 := Tryz.sizeOf39
 have u5 := Tryz.underlying2
 have a5 := Tryz.isAgg2
 have z5 := Tryz.sizeOf2
 have hS : Tryz.prog.underlying 41 = some (.struct (Tryz.prog.fieldsOf 41)) := by kernel_rfl
 have hp : Tryz.prog.stoodInHeld 41 = false := by kernel_rfl
 have e0 : (Op.equal 41 (.agg #[.int .i64 x.s, .int .i64 x.k, .int .u64 (x.t : Int), .int .u64 (x.v : Int), .int .i64 x.x]) (.agg #[.int .i64 y.s, .int .i64 y.k, .int .u64 (y.t : Int), .int .u64 (y.v : Int), .int .i64 y.x])).run Tryz.prog w = (Op.equalIn 10000 41 (.agg #[.int .i64 x.s, .int .i64 x.k, .int .u64 (x.t : Int), .int .u64 (x.v : Int), .int .i64 x.x]) (.agg #[.int .i64 y.s, .int .i64 y.k, .int .u64 (y.t : Int), .int .u64 (y.v : Int), .int .i64 y.x])).run Tryz.prog w := by simp only [Op.equal, Op.maxDepth]
 rw [e0, show (10000 : Nat) = 9999 + 1 from rfl, run_equalIn_agg w 9999 41 _ _ hS hp]
 simp only [Program.fieldsOf, Tryz.underlying41]
 go_simp
 have e : decide (x = y) = (decide (x.s = y.s) && (decide (x.k = y.k) && (decide (x.t = y.t) && (decide (x.v = y.v) && decide (x.x = y.x))))) := by
  rw [← Bool.decide_and, ← Bool.decide_and, ← Bool.decide_and, ← Bool.decide_and]
  exact decide_eq_decide.2 ⟨fun h => by subst h; simp, fun ⟨h1, h2, h3, h4, h5⟩ => It.ext h1 h2 h3 h4 h5⟩
 rw [e]
 by_cases h1 : x.s = y.s <;> by_cases h2 : x.k = y.k <;> by_cases h3 : x.t = y.t <;> by_cases h4 : x.v = y.v <;> by_cases h5 : x.x = y.x <;> simp [h1, h2, h3, h4, h5] <;> omega
theorem it_checkKey (em : Bool) (x : It) (w : World) : (Instr.checkKey em 10000 41 (.agg #[.int .i64 x.s, .int .i64 x.k, .int .u64 (x.t : Int), .int .u64 (x.v : Int), .int .i64 x.x])).run Tryz.prog w = .ok () w := by
 kernel_rfl
theorem it_stays (x : It) (w : World) : (Instr.keyThatStays (.agg #[.int .i64 x.s, .int .i64 x.k, .int .u64 (x.t : Int), .int .u64 (x.v : Int), .int .i64 x.x]) (.agg #[.int .i64 x.s, .int .i64 x.k, .int .u64 (x.t : Int), .int .u64 (x.v : Int), .int .i64 x.x])).run Tryz.prog w = .ok (.agg #[.int .i64 x.s, .int .i64 x.k, .int .u64 (x.t : Int), .int .u64 (x.v : Int), .int .i64 x.x]) w := by
 simp [Instr.keyThatStays, Instr.sameBits]
theorem val_inj {x y : It} (h : x.val = y.val) : x = y := by
 unfold It.val at h
 injection h with h
 simp only [Array.mk.injEq, List.cons.injEq, Value.int.injEq, true_and, and_true] at h
 obtain ⟨h1, h2, h3, h4, h5⟩ := h
 exact It.ext h1 h2 (by omega) (by omega) h5
theorem it_find (x : It) (w : World) : ∀ (es : List MapEntry) (i : Nat), (∀ e ∈ es, ∃ y : It, e.key = y.val) →
  ((Instr.findAsking 41 x.val es i).run Tryz.prog w = .ok none w ∧ ∀ e ∈ es, e.key ≠ x.val) ∨ ∃ j e, (Instr.findAsking 41 x.val es i).run Tryz.prog w = .ok (some (i + j, e.val)) w ∧ es[j]? = some e ∧ e.key = x.val
 | [], i, _ => .inl ⟨by simp [Instr.findAsking], by simp⟩
 | a :: es, i, h => by
  obtain ⟨y, hy⟩ := h a List.mem_cons_self
  have he := it_equal x y w
  by_cases hxy : x = y
  ·subst hxy
   refine .inr ⟨0, a, ?_, rfl, hy⟩
   unfold It.val at hy ⊢
   simp [Instr.findAsking, hy, he]
  ·rcases it_find x w es (i + 1) (fun e he => h e (List.mem_cons_of_mem _ he)) with ⟨h1, h2⟩ | ⟨j, e, h1, h2, h3⟩
   ·refine .inl ⟨?_, fun e hm => ?_⟩
    ·unfold It.val at hy h1 ⊢
     simp [Instr.findAsking, hy, he, hxy, h1]
    ·rcases List.mem_cons.1 hm with rfl | hm
     ·intro e2
      rw [hy] at e2
      exact hxy (val_inj e2).symm
     ·exact h2 e hm
   ·refine .inr ⟨j + 1, e, ?_, by simpa using h2, h3⟩
    unfold It.val at hy h1 ⊢
    simp [Instr.findAsking, hy, he, hxy, h1]
    omega
theorem it_findKey (x : It) (w : World) (es : List MapEntry) (h : ∀ e ∈ es, ∃ y : It, e.key = y.val) :
  ((Instr.findKey 41 x.val es).run Tryz.prog w = .ok none w ∧ ∀ e ∈ es, e.key ≠ x.val) ∨ ∃ j e, (Instr.findKey 41 x.val es).run Tryz.prog w = .ok (some (j, e.val)) w ∧ es[j]? = some e ∧ e.key = x.val := by
 have hS : Tryz.prog.underlying 41 = some (.struct (Tryz.prog.fieldsOf 41)) := by kernel_rfl
 cases es with
 | nil =>
  refine .inl ⟨?_, by simp⟩
  simp [Instr.findKey, run_underlying hS, Instr.findNow]
 | cons a es =>
  obtain ⟨y, hy⟩ := h a List.mem_cons_self
  have hn : Instr.findNow (.struct (Tryz.prog.fieldsOf 41)) x.val (a :: es) 0 = none := by
   unfold Instr.findNow
   rw [hy]
   rfl
  have hf : (Instr.findKey 41 x.val (a :: es)).run Tryz.prog w = (Instr.findAsking 41 x.val (a :: es)).run Tryz.prog w := by
   simp [Instr.findKey, run_underlying hS, hn]
  rw [hf]
  rcases it_find x w (a :: es) 0 h with h1 | ⟨j, e, h1, h2, h3⟩
  ·exact .inl h1
  ·exact .inr ⟨j, e, by simpa using h1, h2, h3⟩
def MpI (es : List MapEntry) (clock : Nat) (M : List It) (B : Nat) : Prop :=
 (∀ e ∈ es, (∃ y ∈ M, e.key = y.val) ∧ (∃ c : Nat, 1 ≤ c ∧ c ≤ B ∧ e.val = .int .i64 (c : Int)) ∧ e.born < clock) ∧ ∀ y ∈ M, ∃ e ∈ es, e.key = y.val
def MpAt (w : World) (b : Nat) (M : List It) (B : Nat) : Prop := ∃ es clock, w.heap[b]? = some (.map es clock) ∧ MpI es.toList clock M B
def MpMid (w : World) (b : Nat) (M : List It) (x : It) (st B : Nat) : Prop := ∃ es clock, w.heap[b]? = some (.map es clock) ∧
 (∀ e ∈ es.toList, (∃ y ∈ M ++ [x], e.key = y.val) ∧ e.born < clock) ∧ (∀ y ∈ M ++ [x], ∃ e ∈ es.toList, e.key = y.val) ∧ (∃ i : Nat, es.toList.findIdx? (fun e => ((e.born : Nat) : Int) == ((st : Nat) : Int)) = some i ∧
  ∀ (j : Nat) e, es.toList[j]? = some e → (∃ c : Nat, c ≤ B ∧ e.val = .int .i64 (c : Int) ∧ (j ≠ i → 1 ≤ c)))
theorem MpAt.look {w : World} {b : Nat} {M : List It} {B : Nat} (h : MpAt w b M B) (x : It) : ∃ c : Nat, c ≤ B ∧ (decide (0 < c) = decide (x ∈ M)) ∧ (Instr.lookup 235 (.map (some b)) x.val false).run Tryz.prog w = .ok (.int .i64 (c : Int)) w := by
 obtain ⟨es, clock, hb, h1, h2⟩ := h
 have ht : Tryz.prog.underlying 235 = some (.map 41 3) := by kernel_rfl
 have hz : (zeroValue 3).run Tryz.prog w = .ok (.int .i64 0) w := by kernel_rfl
 have hck := it_checkKey es.isEmpty x w
 rcases it_findKey x w es.toList (fun e he => let ⟨y, _, h⟩ := (h1 e he).1; ⟨y, h⟩) with ⟨k1, k2⟩ | ⟨j, e, k1, k2, k3⟩
 ·refine ⟨0, Nat.zero_le _, ?_, ?_⟩
  ·have : x ∉ M := fun hm => by
    obtain ⟨e, he, hk⟩ := h2 x hm
    exact k2 e he hk
   simp [this]
  ·unfold It.val at k1 ⊢
   simp [Instr.lookup, run_underlying ht, MapKept.run_getObj_map hb, hck, k1, hz]
 ·have he := List.mem_of_getElem? k2
  obtain ⟨⟨y, hy, hk⟩, ⟨c, c1, c2, c3⟩, _⟩ := h1 e he
  refine ⟨c, c2, ?_, ?_⟩
  ·have : x = y := val_inj (k3.symm.trans hk)
   subst this
   simp [hy]
   omega
  ·unfold It.val at k1 ⊢
   simp [Instr.lookup, run_underlying ht, MapKept.run_getObj_map hb, hck, k1, c3]
theorem MpMid.look {w : World} {b : Nat} {M : List It} {x : It} {st B : Nat} (h : MpMid w b M x st B) (y : It) : ∃ c : Nat, c ≤ B ∧ (Instr.lookup 235 (.map (some b)) y.val false).run Tryz.prog w = .ok (.int .i64 (c : Int)) w := by
 obtain ⟨es, clock, hb, h1, h2, i, h3, h4⟩ := h
 have ht : Tryz.prog.underlying 235 = some (.map 41 3) := by kernel_rfl
 have hz : (zeroValue 3).run Tryz.prog w = .ok (.int .i64 0) w := by kernel_rfl
 have hck := it_checkKey es.isEmpty y w
 rcases it_findKey y w es.toList (fun e he => let ⟨y, _, h⟩ := (h1 e he).1; ⟨y, h⟩) with ⟨k1, k2⟩ | ⟨j, e, k1, k2, k3⟩
 ·refine ⟨0, Nat.zero_le _, ?_⟩
  unfold It.val at k1 ⊢
  simp [Instr.lookup, run_underlying ht, MapKept.run_getObj_map hb, hck, k1, hz]
 ·obtain ⟨c, c1, c2, _⟩ := h4 j e k2
  refine ⟨c, c1, ?_⟩
  unfold It.val at k1 ⊢
  simp [Instr.lookup, run_underlying ht, MapKept.run_getObj_map hb, hck, k1, c2]
abbrev putB (w : World) (b : Nat) (o : Obj) : World := { w with heap := w.heap.setIfInBounds b o }
theorem putB_heap {w : World} {b : Nat} {o : Obj} (hb : b < w.heap.size) : (putB w b o).heap[b]? = some o := by
 simp [putB, hb]
theorem putB_grown (w : World) (b : Nat) (o : Obj) : w.grownBy (putB w b o) (some b) := ⟨rfl, rfl, rfl, by simp, fun k _ hk => by
 simp only [putB]
 rw [Array.getElem?_setIfInBounds_ne (fun e => hk (by rw [e]))]⟩
theorem MpAt.entry {w : World} {b : Nat} {M : List It} {B : Nat} (h : MpAt w b M B) (x : It) : ∃ (v0 : Value) (st : Nat) (o : Obj), (Instr.mapEntry 235 (.map (some b)) x.val).run Tryz.prog w = .ok (.tuple #[v0, .int .i64 (st : Int)]) (putB w b o) ∧ MpMid (putB w b o) b M x st B := by
 obtain ⟨es, clock, hb, h1, h2⟩ := h
 have hlt := (Array.getElem?_eq_some_iff.1 hb).1
 have ht : Tryz.prog.underlying 235 = some (.map 41 3) := by kernel_rfl
 have hz : (zeroValue 3).run Tryz.prog w = .ok (.int .i64 0) w := by kernel_rfl
 have hck := it_checkKey false x w
 have hst := it_stays x w
 rcases it_findKey x w es.toList (fun e he => let ⟨y, _, h⟩ := (h1 e he).1; ⟨y, h⟩) with ⟨k1, k2⟩ | ⟨j, e, k1, k2, k3⟩
 ·refine ⟨.int .i64 0, clock, .map (es.push ⟨x.val, .int .i64 0, clock⟩) (clock + 1), ?_, es.push ⟨x.val, .int .i64 0, clock⟩, clock + 1, putB_heap hlt, ?_, ?_, es.toList.length, ?_, ?_⟩
  ·unfold It.val at k1 ⊢
   simp [Instr.mapEntry, run_underlying ht, MapKept.run_getObj_map hb, hck, k1, hz, MapKept.run_setObj_map _ hb, goInt]
  ·intro e he
   simp only [Array.toList_push, List.mem_append, List.mem_singleton] at he
   rcases he with he | rfl
   ·obtain ⟨⟨y, hy, hk⟩, _, hc⟩ := h1 e he
    exact ⟨⟨y, List.mem_append_left _ hy, hk⟩, by omega⟩
   ·exact ⟨⟨x, by simp, rfl⟩, by simp⟩
  ·intro y hy
   simp only [Array.toList_push]
   rcases List.mem_append.1 hy with hy | hy
   ·obtain ⟨e, he, hk⟩ := h2 y hy
    exact ⟨e, List.mem_append_left _ he, hk⟩
   ·rw [List.mem_singleton.1 hy]
    exact ⟨_, List.mem_append_right _ (List.mem_singleton.2 rfl), rfl⟩
  ·simp only [Array.toList_push]
   have hno : ∀ (l : List MapEntry), (∀ e ∈ l, e.born < clock) → l.findIdx? (fun e => ((e.born : Nat) : Int) == ((clock : Nat) : Int)) = none := fun l hl => by
    rw [List.findIdx?_eq_none_iff]
    intro e he
    have := hl e he
    simp
    omega
   rw [List.findIdx?_append, hno _ (fun e he => (h1 e he).2.2)]
   simp [List.findIdx?_cons]
  ·intro j e he
   simp only [Array.toList_push] at he
   rcases Nat.lt_or_ge j es.toList.length with hj | hj
   ·rw [List.getElem?_append_left hj] at he
    obtain ⟨_, ⟨c, c1, c2, c3⟩, _⟩ := h1 e (List.mem_of_getElem? he)
    exact ⟨c, c2, c3, fun _ => c1⟩
   ·rw [List.getElem?_append_right hj] at he
    obtain ⟨hj0, he⟩ := List.getElem?_eq_some_iff.1 he
    have hj1 : j = es.toList.length := by
     have : j - es.toList.length < 1 := hj0
     omega
    subst hj1
    simp only [Nat.sub_self, List.getElem_cons_zero] at he
    subst he
    exact ⟨0, Nat.zero_le _, rfl, fun h => absurd rfl h⟩
 ·have he := List.mem_of_getElem? k2
  obtain ⟨⟨y, hy, hk⟩, ⟨c, c1, c2, c3⟩, _⟩ := h1 e he
  have hxy : x = y := val_inj (k3.symm.trans hk)
  subst hxy
  have hej : es[j]? = some e := by simpa using k2
  have hmod : es.modify j (fun e => { e with key := x.val }) = es := by
   apply Array.ext'
   rw [Array.toList_modify]
   apply List.ext_getElem?
   intro i
   rw [List.getElem?_modify]
   by_cases hij : j = i
   ·subst hij
    rw [k2]
    simp only [Option.map_eq_map, Option.map_some, if_pos]
    rw [← k3]
   ·simp [hij]
  obtain ⟨i, hi⟩ : ∃ i, es.toList.findIdx? (fun e' => ((e'.born : Nat) : Int) == ((e.born : Nat) : Int)) = some i := by
   cases hf : es.toList.findIdx? (fun e' => ((e'.born : Nat) : Int) == ((e.born : Nat) : Int)) with
   | some i => exact ⟨i, rfl⟩
   | none =>
    rw [List.findIdx?_eq_none_iff] at hf
    have := hf e he
    simp at this
  refine ⟨.int .i64 (c : Int), e.born, .map es clock, ?_, es, clock, putB_heap hlt, ?_, ?_, i, hi, ?_⟩
  ·unfold It.val at k1 k3 hmod hst ⊢
   simp [Instr.mapEntry, run_underlying ht, MapKept.run_getObj_map hb, hck, k1, hej, k3, hst, hmod, c3, MapKept.run_setObj_map _ hb, goInt]
  ·intro e' he'
   obtain ⟨⟨y, hy, hk⟩, _, hc⟩ := h1 e' he'
   exact ⟨⟨y, List.mem_append_left _ hy, hk⟩, hc⟩
  ·intro y' hy'
   rcases List.mem_append.1 hy' with hy' | hy'
   ·exact h2 y' hy'
   ·rw [List.mem_singleton.1 hy']
    exact ⟨e, he, k3⟩
  ·intro j' e' he'
   obtain ⟨_, ⟨c', c1', c2', c3'⟩, _⟩ := h1 e' (List.mem_of_getElem? he')
   exact ⟨c', c2', c3', fun _ => c1'⟩
theorem MpMid.store {w : World} {b : Nat} {M : List It} {x : It} {st B : Nat} (h : MpMid w b M x st B) (c : Nat) (hc1 : 1 ≤ c) (hc2 : c ≤ B + 1) : ∃ o : Obj, (Instr.entryStore 235 (.map (some b)) (.int .i64 (st : Int)) (.int .i64 (c : Int))).run Tryz.prog w = .ok () (putB w b o) ∧ MpAt (putB w b o) b (M ++ [x]) (B + 1) := by
 obtain ⟨es, clock, hb, h1, h2, i, h3, h4⟩ := h
 have hlt := (Array.getElem?_eq_some_iff.1 hb).1
 have hfi : es.findIdx? (fun e => ((e.born : Nat) : Int) == ((st : Nat) : Int)) = some i := by
  have e1 : es.findIdx? (fun e => ((e.born : Nat) : Int) == ((st : Nat) : Int)) = es.toList.findIdx? (fun e => ((e.born : Nat) : Int) == ((st : Nat) : Int)) := by cases es; simp
  rw [e1]
  exact h3
 refine ⟨.map (es.modify i fun e => { e with val := .int .i64 (c : Int) }) clock, ?_, es.modify i fun e => { e with val := .int .i64 (c : Int) }, clock, putB_heap hlt, ?_, ?_⟩
 ·simp [Instr.entryStore, MapKept.run_getObj_map hb, asInt, asIntOf, hfi, MapKept.run_setObj_map _ hb]
 ·intro e he
  rw [Array.toList_modify] at he
  obtain ⟨j, hj⟩ := List.getElem?_of_mem he
  rw [List.getElem?_modify] at hj
  cases hjj : es.toList[j]? with
  | none => rw [hjj] at hj; simp at hj
  | some e0 =>
   rw [hjj] at hj
   obtain ⟨hk, hbn⟩ := h1 e0 (List.mem_of_getElem? hjj)
   obtain ⟨c', d1, d2, d3⟩ := h4 j e0 hjj
   by_cases hij : i = j
   ·have h5 : ({ e0 with val := .int .i64 (c : Int) } : MapEntry) = e := by simpa [hij] using hj
    subst h5
    exact ⟨hk, ⟨c, hc1, hc2, rfl⟩, hbn⟩
   ·have h5 : e0 = e := by simpa [hij] using hj
    subst h5
    exact ⟨hk, ⟨c', d3 (fun e => hij e.symm), by omega, d2⟩, hbn⟩
 ·intro y hy
  obtain ⟨e, he, hk⟩ := h2 y hy
  obtain ⟨j, hj⟩ := List.getElem?_of_mem he
  rw [Array.toList_modify]
  by_cases hij : i = j
  ·refine ⟨{ e with val := .int .i64 (c : Int) }, ?_, hk⟩
   apply List.mem_of_getElem? (i := j)
   rw [List.getElem?_modify, hj]
   simp [hij]
  ·refine ⟨e, ?_, hk⟩
   apply List.mem_of_getElem? (i := j)
   rw [List.getElem?_modify, hj]
   simp [hij]
end Go.Proofs.YtpdaolongmgmgaaGreatDoor
namespace Go.Proofs.YtpdaolongmgmgaaGreatDoor
open Go Go.RowKit Go.Lib
def HsAt (w : World) (g b : Nat) (M : List It) : Prop := (∃ B, B ≤ 1000000 ∧ MpAt w b M B) ∧ BoxO w 235 g [.map (some b)]
theorem MpAt.below {w w' : World} {b B : Nat} {M : List It} (h : MpAt w b M B) (hb : Below w.heap.size w w') : MpAt w' b M B := by
 obtain ⟨es, clock, h1, h2⟩ := h
 exact ⟨es, clock, (hb.block b (Array.getElem?_eq_some_iff.1 h1).1).trans h1, h2⟩
theorem MpAt.grown {w w' : World} {b B : Nat} {M : List It} {r : Option Nat} (h : MpAt w b M B) (hg : w.grownBy w' r) (hne : some b ≠ r) : MpAt w' b M B := by
 obtain ⟨es, clock, h1, h2⟩ := h
 exact ⟨es, clock, (hg.block b (Array.getElem?_eq_some_iff.1 h1).1 hne).trans h1, h2⟩
theorem HsAt.below {w w' : World} {g b : Nat} {M : List It} (h : HsAt w g b M) (hb : Below w.heap.size w w') : HsAt w' g b M := ⟨let ⟨B, h1, h2⟩ := h.1; ⟨B, h1, h2.below hb⟩, h.2.below hb⟩
set_option maxRecDepth 100000 in
set_option maxHeartbeats 1000000 in
theorem has1_any (x : It) (g b : Nat) (M : List It) (w : World) (h : HsAt w g b M) : Calls Tryz.prog 169 #[x.val, .pointer (some ⟨g, 0, none⟩)] w fun e w' => e = .returned (.bool (decide (x ∈ M))) ∧ Below w.heap.size w w' := by
 obtain ⟨⟨B, hB, hm⟩, hb⟩ := h
 have hm2 := hm.below ((Below.refl w.heap.size w).alloc (Nat.le_refl _) (.cells #[.int .i64 x.s, .int .i64 x.k, .int .u64 (x.t : Int), .int .u64 (x.v : Int), .int .i64 x.x] 41))
 obtain ⟨c, c1, c2, c3⟩ := hm2.look x
 have c0 := (hb.alloc (.cells #[.int .i64 x.s, .int .i64 x.k, .int .u64 (x.t : Int), .int .u64 (x.v : Int), .int .i64 x.x] 41)).cell 0
 simp only [List.getElem?_cons_zero] at c0
 have hbz := (Below.refl w.heap.size w).alloc (Nat.le_refl _) (.cells #[.int .i64 x.s, .int .i64 x.k, .int .u64 (x.t : Int), .int .u64 (x.v : Int), .int .i64 x.x] 41)
 rw [← c2]
 have hdc : decide ((0 : Int) < (c : Int)) = decide (0 < c) := by simp
 unfold It.val at *
 clear hm hm2 hb c2
 go_enter Tryz.func169, Tryz.ntmps169
 go_wp2
 go_ret
 exact ⟨by simp, hbz⟩
theorem grown_drew (w : World) (r : Option Nat) : w.grownBy w.drew r := ⟨rfl, rfl, rfl, Nat.le_refl _, fun _ _ _ => rfl⟩
theorem grown_same {w w1 w2 : World} {b : Nat} (h : w.grownBy w1 (some b)) (k : w1.grownBy w2 (some b)) : w.grownBy w2 (some b) := ⟨k.os.trans h.os, k.tape.trans h.tape, k.output.trans h.output, Nat.le_trans h.size k.size, fun g hg hne => (k.block g (Nat.lt_of_lt_of_le hg h.size) hne).trans (h.block g hg hne)⟩
theorem has_round {w wr W1 W2 : World} {k : Nat} {l : List It} {x : It} (hw : W1 = wr.alloc (.cells #[.int .i64 x.s, .int .i64 x.k, .int .u64 (x.t : Int), .int .u64 (x.v : Int), .int .i64 x.x] 41)) (hm : MpAt W2 w.heap.size (l.take k ++ [x]) (k + 1)) (hg : W1.grownBy W2 (some w.heap.size)) (hb : BoxO wr 235 (w.heap.size + 1) [.map (some w.heap.size)] ∧ Below w.heap.size w wr) (ht : l.take (k + 1) = l.take k ++ [x]) :
  MpAt W2 w.heap.size (l.take (k + 1)) (k + 1) ∧ BoxO W2 235 (w.heap.size + 1) [.map (some w.heap.size)] ∧ Below w.heap.size w W2 := by
 subst hw
 refine ⟨by rw [ht]; exact hm, (hb.1.alloc _).igrown hg (by simp), ?_⟩
 exact (hb.2.alloc hb.2.size _).grown hg (by rw [World.size_alloc]; have := hb.2.size; omega) (fun g e => by cases e; exact Nat.le_refl _)
set_option maxRecDepth 100000 in
set_option maxHeartbeats 2000000 in
theorem has_any (A : Option Addr) (n c : Nat) (l : List It) (w : World) (hn : n ≤ 1000000) (hr : Row w.heap.size w A n 5 (itc l)) :
  Calls Tryz.prog 91 #[.slice A n c] w fun e w' => ∃ g b, e = .returned (.func (.func 169) #[] #[.pointer (some ⟨g, 0, none⟩)]) ∧ HsAt w' g b l ∧ Below w.heap.size w w' := by
 have hnn := hr.itlen
 have hmk := @run_makeMap Tryz.prog
 have h0 : MpAt ((w.alloc (.map #[] 0)).alloc (.cells #[.map (some w.heap.size)] 235)) w.heap.size [] 0 := by
  refine ⟨#[], 0, ?_, fun e he => by simp at he, fun y hy => by simp at hy⟩
  rw [Below.heap_alloc _ _ _ (by simp), World.alloc_heap_new]
 have hb0 : BoxO ((w.alloc (.map #[] 0)).alloc (.cells #[.map (some w.heap.size)] 235)) 235 (w.heap.size + 1) [.map (some w.heap.size)] := by
  have h1 := BoxO.new (w.alloc (.map #[] 0)) #[.map (some w.heap.size)] 235
  rw [World.size_alloc] at h1
  exact h1
 have hl0 : Below w.heap.size w ((w.alloc (.map #[] 0)).alloc (.cells #[.map (some w.heap.size)] 235)) :=
  ((Below.refl _ w).alloc (Nat.le_refl _) _).alloc (by simp) _
 have HH := Lib.hid (And.intro h0 (And.intro hb0 hl0))
 have HNN := Lib.hid hnn
 clear h0 hb0 hl0 hnn
 go_enter Tryz.func91, Tryz.ntmps91
 go_wp2
 go_loopw [9] (fun i wr => ∃ k : Nat, k ≤ n ∧ i = .int .i64 (k : Int) ∧ Hid (MpAt wr w.heap.size (l.take k) k ∧ BoxO wr 235 (w.heap.size + 1) [.map (some w.heap.size)] ∧ Below w.heap.size w wr)) (fun i _ => n - (intOf i).toNat)
 case atStart => exact ⟨0, Nat.zero_le _, rfl, HH⟩
 case round =>
  obtain ⟨k, hkn, rfl, HB⟩ := hrel
  by_cases hlt : k < n
  ·obtain ⟨p, hl, rfl, hbk, e0, e1, e2, e3, e4⟩ := (hr.below HB.out.2.2).it hlt
   have hki : (k : Int) < (n : Int) := by omega
   have hwk : IntKind.i64.wrap (k : Int) = (k : Int) := IntWalk.i64_in _ (by omega)
   have htk : l.take (k + 1) = l.take k ++ [l[k]] := List.take_succ_eq_append_getElem hl
   generalize l[k] = x at *
   have hbx : BoxO (wr.alloc (.cells #[.int .i64 x.s, .int .i64 x.k, .int .u64 (x.t : Int), .int .u64 (x.v : Int), .int .i64 x.x] 41)) 41 wr.heap.size x.cells := BoxO.new wr #[.int .i64 x.s, .int .i64 x.k, .int .u64 (x.t : Int), .int .u64 (x.v : Int), .int .i64 x.x] 41
   obtain ⟨W1, hW1⟩ : ∃ W1, W1 = wr.alloc (.cells #[.int .i64 x.s, .int .i64 x.k, .int .u64 (x.t : Int), .int .u64 (x.v : Int), .int .i64 x.x] 41) := ⟨_, rfl⟩
   have hma0 : MpAt W1 w.heap.size (l.take k) k := by rw [hW1]; exact HB.out.1.below ((Below.refl _ wr).alloc (Nat.le_refl _) _)
   have hma : MpAt W1.drew w.heap.size (l.take k) k := hma0
   have hbm : BoxO W1 235 (w.heap.size + 1) [.map (some w.heap.size)] := by rw [hW1]; exact HB.out.2.1.alloc _
   rw [← hW1] at hbx
   have hlt2 : w.heap.size + 1 < wr.heap.size := HB.out.2.1.lt
   obtain ⟨g, hg⟩ : ∃ g, g = wr.heap.size := ⟨_, rfl⟩
   have hcl : ∀ w', W1.grownBy w' (some w.heap.size) → w'.cell? ⟨w.heap.size + 1, 0, none⟩ = some (.map (some w.heap.size)) ∧ w'.cell? ⟨g, 0, none⟩ = some (.int .i64 x.s) ∧ w'.cell? ⟨g, 1, none⟩ = some (.int .i64 x.k) ∧ w'.cell? ⟨g, 2, none⟩ = some (.int .u64 (x.t : Int)) ∧ w'.cell? ⟨g, 3, none⟩ = some (.int .u64 (x.v : Int)) ∧ w'.cell? ⟨g, 4, none⟩ = some (.int .i64 x.x) := by
    intro w' hw'
    have h1 := (hbm.igrown hw' (by simp)).cell 0
    have h2 := hbx.igrown hw' (by simp; omega)
    rw [← hg] at h2
    exact ⟨h1, h2.cell 0, h2.cell 1, h2.cell 2, h2.cell 3, h2.cell 4⟩
   have HC := Lib.hid hcl
   have HMA := Lib.hid hma
   have HW := Lib.hid hW1
   have HB0 := Lib.hid HB.out.2
   have HT := Lib.hid htk
   have HG := Lib.hid hg
   clear hcl hma hma0 hW1 htk hbx hbm hg HB
   go_wp2_with fail
   rw [← HW.out, ← HG.out]
   refine wp_region_held_drew (S := fun w' => W1.grownBy w' (some w.heap.size)) rfl (grown_drew _ _) (fun hSw => ?_)
   refine wpAnyH_take (i := 0) (v := ?_) rfl (by kernel_rfl) (by kernel_rfl) (by kernel_rfl) (fun _ _ _ h => h) (Or.inl ⟨by rfl, ?_⟩) hSw ?_
   rotate_left
   ·(intro w' hSw; obtain ⟨m0, d0, d1, d2, d3, d4⟩ := HC.out w' hSw; go_simp; try (with_reducible rfl))
   go_simp
   refine wpAnyH_take (i := 1) (v := ?_) rfl (by kernel_rfl) (by kernel_rfl) (by kernel_rfl) (fun _ _ _ h => h) (Or.inl ⟨by rfl, ?_⟩) hSw ?_
   rotate_left
   ·(intro w' hSw; obtain ⟨m0, d0, d1, d2, d3, d4⟩ := HC.out w' hSw; go_simp; try (with_reducible rfl))
   go_simp
   refine wpAnyH_ready (rs := [2, 4]) (by kernel_rfl) (by simp) ?_
   refine AllReadyH.cons rfl (fun K hK => ?_) (AllReadyH.cons rfl (fun K hK => ?_) AllReadyH.nil)
   ·obtain ⟨c, c1, _, c3⟩ := HMA.out.look x
    unfold It.val at c3
    go_simp
    refine hK.out _ _ hSw (fun hSn => ?_)
    clear hK K hSw
    have hSw := hSn
    clear hSn
    clear c3
    have hwc : IntKind.i64.wrap ((c : Int) + 1) = ((c + 1 : Nat) : Int) := by rw [IntWalk.i64_in _ (by omega)]; omega
    go_simp
    refine wpAnyH_take (i := 3) (v := ?_) rfl (by kernel_rfl) (by kernel_rfl) (by kernel_rfl) (fun _ _ _ h => h) (Or.inl ⟨by rfl, ?_⟩) hSw ?_
    rotate_left
    ·(intro w' hSw; obtain ⟨m0, d0, d1, d2, d3, d4⟩ := HC.out w' hSw; go_simp; try (with_reducible rfl))
    go_simp
    refine wpAnyH_ready (rs := [4]) (by kernel_rfl) (by simp) ?_
    refine AllReadyH.cons rfl (fun K hK => ?_) AllReadyH.nil
    obtain ⟨v0, st, o1, hme, hmid⟩ := HMA.out.entry x
    have HMI := Lib.hid hmid
    unfold It.val at hme
    clear hmid
    go_simp
    refine hK.out _ _ (grown_same hSw (putB_grown _ _ _)) (fun hSn => ?_)
    clear hK K hSw
    have hSw := hSn
    clear hSn
    clear hme
    go_simp
    refine wpAnyH_take (i := 5) (v := ?_) rfl (by kernel_rfl) (by kernel_rfl) (by kernel_rfl) (fun _ _ _ h => h) (Or.inl ⟨by rfl, ?_⟩) hSw ?_
    rotate_left
    ·(intro w' hSw; obtain ⟨m0, d0, d1, d2, d3, d4⟩ := HC.out w' hSw; go_simp; try (with_reducible rfl))
    go_simp
    refine wpAnyH_ready (rs := [6]) (by kernel_rfl) (by simp) ?_
    refine AllReadyH.cons rfl (fun K hK => ?_) AllReadyH.nil
    obtain ⟨o2, hes, hmz⟩ := HMI.out.store (c + 1) (by omega) (by omega)
    have HMZ := Lib.hid hmz
    clear hmz
    rw [show ((c + 1 : Nat) : Int) = (c : Int) + 1 from by omega] at hes
    go_simp
    refine hK.out _ _ (grown_same hSw (putB_grown _ _ _)) (fun hSn => ?_)
    clear hK K hSw
    have hSw := hSn
    clear hSn
    clear hes
    go_simp
    refine wpAnyH_done (by kernel_rfl) ?_ _
    have HF := Lib.hid (has_round HW.out HMZ.out hSw HB0.out HT.out)
    clear hSw
    go_wp2
    go_roundw
    case rel => exact ⟨k + 1, by omega, by go_num, HF.out⟩
    case measure => simp [intOf]; omega
   ·obtain ⟨v0, st, o1, hme, hmid⟩ := HMA.out.entry x
    have HMI := Lib.hid hmid
    unfold It.val at hme
    clear hmid
    go_simp
    refine hK.out _ _ (grown_same hSw (putB_grown _ _ _)) (fun hSn => ?_)
    clear hK K hSw
    have hSw := hSn
    clear hSn
    clear hme
    go_simp
    refine wpAnyH_take (i := 5) (v := ?_) rfl (by kernel_rfl) (by kernel_rfl) (by kernel_rfl) (fun _ _ _ h => h) (Or.inl ⟨by rfl, ?_⟩) hSw ?_
    rotate_left
    ·(intro w' hSw; obtain ⟨m0, d0, d1, d2, d3, d4⟩ := HC.out w' hSw; go_simp; try (with_reducible rfl))
    go_simp
    refine wpAnyH_ready (rs := [2]) (by kernel_rfl) (by simp) ?_
    refine AllReadyH.cons rfl (fun K hK => ?_) AllReadyH.nil
    obtain ⟨c, c1, c3⟩ := HMI.out.look x
    unfold It.val at c3
    go_simp
    refine hK.out _ _ hSw (fun hSn => ?_)
    clear hK K hSw
    have hSw := hSn
    clear hSn
    clear c3
    have hwc : IntKind.i64.wrap ((c : Int) + 1) = ((c + 1 : Nat) : Int) := by rw [IntWalk.i64_in _ (by omega)]; omega
    go_simp
    refine wpAnyH_take (i := 3) (v := ?_) rfl (by kernel_rfl) (by kernel_rfl) (by kernel_rfl) (fun _ _ _ h => h) (Or.inl ⟨by rfl, ?_⟩) hSw ?_
    rotate_left
    ·(intro w' hSw; obtain ⟨m0, d0, d1, d2, d3, d4⟩ := HC.out w' hSw; go_simp; try (with_reducible rfl))
    go_simp
    refine wpAnyH_ready (rs := [6]) (by kernel_rfl) (by simp) ?_
    refine AllReadyH.cons rfl (fun K hK => ?_) AllReadyH.nil
    obtain ⟨o2, hes, hmz⟩ := HMI.out.store (c + 1) (by omega) (by omega)
    have HMZ := Lib.hid hmz
    clear hmz
    rw [show ((c + 1 : Nat) : Int) = (c : Int) + 1 from by omega] at hes
    go_simp
    refine hK.out _ _ (grown_same hSw (putB_grown _ _ _)) (fun hSn => ?_)
    clear hK K hSw
    have hSw := hSn
    clear hSn
    clear hes
    go_simp
    refine wpAnyH_done (by kernel_rfl) ?_ _
    have HF := Lib.hid (has_round HW.out HMZ.out hSw HB0.out HT.out)
    clear hSw
    go_wp2
    go_roundw
    case rel => exact ⟨k + 1, by omega, by go_num, HF.out⟩
    case measure => simp [intOf]; omega
  ·have hki : ((k : Int) < (n : Int)) = False := eq_false (by omega)
   have hall : l.take k = l := List.take_of_length_le (by have := HNN.out; omega)
   have hb := HB.out
   rw [hall] at hb
   have HF := Lib.hid hb
   clear hb HB hall
   go_wp2
   go_ret
   exact ⟨w.heap.size + 1, w.heap.size, rfl, ⟨⟨k, by omega, HF.out.1⟩, HF.out.2.1⟩, HF.out.2.2⟩
end Go.Proofs.YtpdaolongmgmgaaGreatDoor
