/- Texts HasA, HasB, StoK, LawU, NodE, NodF, MsgA, NodG, NodH in one. No conditions. -/
import Derived.Test.YtdkjoigpahafmaaGreatDoorBunAP
import Derived.Test.YtdkjoigpahafmaaGreatDoorBunAI
import Derived.MapKept
import Derived.ChangeMaps4
import Derived.Test.YtdkjoigpahafmaaGreatDoorBunAO
import Derived.Test.YtdkjoigpahafmaaGreatDoorBunAA

set_option linter.unusedSimpArgs false
set_option linter.unusedVariables false
set_option maxRecDepth 100000
set_option maxHeartbeats 16000000
namespace Go.Proofs.YtdkjoigpahafmaaGreatDoor
section
open Go Go.RowKit Go.Lib
theorem it_equal (x y : It) (w : World) : (Op.equal 27 (.agg #[.int .i64 x.s, .int .i64 x.k, .int .u64 (x.t : Int), .int .u64 (x.v : Int), .int .i64 x.x]) (.agg #[.int .i64 y.s, .int .i64 y.k, .int .u64 (y.t : Int), .int .u64 (y.v : Int), .int .i64 y.x])).run Tryz.prog w = .ok (decide (x = y)) w := by
 have u3 := Tryz.underlying3
 have a3 := Tryz.isAgg3
 have z3 := Tryz.sizeOf3
 have u4 := Tryz.underlying25
 have a4 := Tryz.isAgg25
 have z4 := Tryz.sizeOf25
 have u5 := Tryz.underlying2
 have a5 := Tryz.isAgg2
 have z5 := Tryz.sizeOf2
 have hS : Tryz.prog.underlying 27 = some (.struct (Tryz.prog.fieldsOf 27)) := by kernel_rfl
 have hp : Tryz.prog.stoodInHeld 27 = false := by kernel_rfl
 have e0 : (Op.equal 27 (.agg #[.int .i64 x.s, .int .i64 x.k, .int .u64 (x.t : Int), .int .u64 (x.v : Int), .int .i64 x.x]) (.agg #[.int .i64 y.s, .int .i64 y.k, .int .u64 (y.t : Int), .int .u64 (y.v : Int), .int .i64 y.x])).run Tryz.prog w = (Op.equalIn 10000 27 (.agg #[.int .i64 x.s, .int .i64 x.k, .int .u64 (x.t : Int), .int .u64 (x.v : Int), .int .i64 x.x]) (.agg #[.int .i64 y.s, .int .i64 y.k, .int .u64 (y.t : Int), .int .u64 (y.v : Int), .int .i64 y.x])).run Tryz.prog w := by simp only [Op.equal, Op.maxDepth]
 rw [e0, show (10000 : Nat) = 9999 + 1 from rfl, run_equalIn_agg w 9999 27 _ _ hS hp]
 simp only [Program.fieldsOf, Tryz.underlying27]
 go_simp
 have e : decide (x = y) = (decide (x.s = y.s) && (decide (x.k = y.k) && (decide (x.t = y.t) && (decide (x.v = y.v) && decide (x.x = y.x))))) := by
  rw [← Bool.decide_and, ← Bool.decide_and, ← Bool.decide_and, ← Bool.decide_and]
  exact decide_eq_decide.2 ⟨fun h => by subst h; simp, fun ⟨h1, h2, h3, h4, h5⟩ => It.ext h1 h2 h3 h4 h5⟩
 rw [e]
 by_cases h1 : x.s = y.s <;> by_cases h2 : x.k = y.k <;> by_cases h3 : x.t = y.t <;> by_cases h4 : x.v = y.v <;> by_cases h5 : x.x = y.x <;> simp [h1, h2, h3, h4, h5] <;> omega
theorem it_checkKey (em : Bool) (x : It) (w : World) : (Instr.checkKey em 10000 27 (.agg #[.int .i64 x.s, .int .i64 x.k, .int .u64 (x.t : Int), .int .u64 (x.v : Int), .int .i64 x.x])).run Tryz.prog w = .ok () w := by
 kernel_rfl
theorem it_stays (x : It) (w : World) : (Instr.keyThatStays (.agg #[.int .i64 x.s, .int .i64 x.k, .int .u64 (x.t : Int), .int .u64 (x.v : Int), .int .i64 x.x]) (.agg #[.int .i64 x.s, .int .i64 x.k, .int .u64 (x.t : Int), .int .u64 (x.v : Int), .int .i64 x.x])).run Tryz.prog w = .ok (.agg #[.int .i64 x.s, .int .i64 x.k, .int .u64 (x.t : Int), .int .u64 (x.v : Int), .int .i64 x.x]) w := by
 simp [Instr.keyThatStays, Instr.sameBits]
theorem val_inj {x y : It} (h : x.val = y.val) : x = y := by
 unfold It.val at h
 injection h with h
 simp only [Array.mk.injEq, List.cons.injEq, Value.int.injEq, true_and, and_true] at h
 obtain ⟨h1, h2, h3, h4, h5⟩ := h
 exact It.ext h1 h2 (by omega) (by omega) h5
theorem it_find (x : It) (w : World) : ∀ (es : List MapEntry) (i : Nat), (∀ e ∈ es, ∃ y : It, e.key = y.val) →
  ((Instr.findAsking 27 x.val es i).run Tryz.prog w = .ok none w ∧ ∀ e ∈ es, e.key ≠ x.val) ∨ ∃ j e, (Instr.findAsking 27 x.val es i).run Tryz.prog w = .ok (some (i + j, e.val)) w ∧ es[j]? = some e ∧ e.key = x.val
 | [], i, _ => .inl ⟨by simp [Instr.findAsking], by simp⟩
 | a :: es, i, h => by
  obtain ⟨y, hy⟩ := h a List.mem_cons_self
  have he := it_equal x y w
  by_cases hxy : x = y
  ·subst hxy
   refine .inr ⟨0, a, ?_, rfl, hy⟩
   unfold It.val at hy ⊢
   simp [Instr.findAsking, hy, he]
  ·rcases it_find x w es (i + 1) (fun e he => h e (List.mem_cons_of_mem _ he)) with ⟨h1, h2⟩ | ⟨j, e, h1, h2, h3⟩
   ·refine .inl ⟨?_, fun e hm => ?_⟩
    ·unfold It.val at hy h1 ⊢
     simp [Instr.findAsking, hy, he, hxy, h1]
    ·rcases List.mem_cons.1 hm with rfl | hm
     ·intro e2
      rw [hy] at e2
      exact hxy (val_inj e2).symm
     ·exact h2 e hm
   ·refine .inr ⟨j + 1, e, ?_, by simpa using h2, h3⟩
    unfold It.val at hy h1 ⊢
    simp [Instr.findAsking, hy, he, hxy, h1]
    omega
theorem it_findKey (x : It) (w : World) (es : List MapEntry) (h : ∀ e ∈ es, ∃ y : It, e.key = y.val) :
  ((Instr.findKey 27 x.val es).run Tryz.prog w = .ok none w ∧ ∀ e ∈ es, e.key ≠ x.val) ∨ ∃ j e, (Instr.findKey 27 x.val es).run Tryz.prog w = .ok (some (j, e.val)) w ∧ es[j]? = some e ∧ e.key = x.val := by
 have hS : Tryz.prog.underlying 27 = some (.struct (Tryz.prog.fieldsOf 27)) := by kernel_rfl
 cases es with
 | nil =>
  refine .inl ⟨?_, by simp⟩
  simp [Instr.findKey, run_underlying hS, Instr.findNow]
 | cons a es =>
  obtain ⟨y, hy⟩ := h a List.mem_cons_self
  have hn : Instr.findNow (.struct (Tryz.prog.fieldsOf 27)) x.val (a :: es) 0 = none := by
   unfold Instr.findNow
   rw [hy]
   rfl
  have hf : (Instr.findKey 27 x.val (a :: es)).run Tryz.prog w = (Instr.findAsking 27 x.val (a :: es)).run Tryz.prog w := by
   simp [Instr.findKey, run_underlying hS, hn]
  rw [hf]
  rcases it_find x w (a :: es) 0 h with h1 | ⟨j, e, h1, h2, h3⟩
  ·exact .inl h1
  ·exact .inr ⟨j, e, by simpa using h1, h2, h3⟩
def MpI (es : List MapEntry) (clock : Nat) (M : List It) (B : Nat) : Prop :=
 (∀ e ∈ es, (∃ y ∈ M, e.key = y.val) ∧ (∃ c : Nat, 1 ≤ c ∧ c ≤ B ∧ e.val = .int .i64 (c : Int)) ∧ e.born < clock) ∧ ∀ y ∈ M, ∃ e ∈ es, e.key = y.val
def MpAt (w : World) (b : Nat) (M : List It) (B : Nat) : Prop := ∃ es clock, w.heap[b]? = some (.map es clock) ∧ MpI es.toList clock M B
def MpMid (w : World) (b : Nat) (M : List It) (x : It) (st B : Nat) : Prop := ∃ es clock, w.heap[b]? = some (.map es clock) ∧
 (∀ e ∈ es.toList, (∃ y ∈ M ++ [x], e.key = y.val) ∧ e.born < clock) ∧ (∀ y ∈ M ++ [x], ∃ e ∈ es.toList, e.key = y.val) ∧ (∃ i : Nat, es.toList.findIdx? (fun e => ((e.born : Nat) : Int) == ((st : Nat) : Int)) = some i ∧
  ∀ (j : Nat) e, es.toList[j]? = some e → (∃ c : Nat, c ≤ B ∧ e.val = .int .i64 (c : Int) ∧ (j ≠ i → 1 ≤ c)))
theorem MpAt.look {w : World} {b : Nat} {M : List It} {B : Nat} (h : MpAt w b M B) (x : It) : ∃ c : Nat, c ≤ B ∧ (decide (0 < c) = decide (x ∈ M)) ∧ (Instr.lookup 248 (.map (some b)) x.val false).run Tryz.prog w = .ok (.int .i64 (c : Int)) w := by
 obtain ⟨es, clock, hb, h1, h2⟩ := h
 have ht : Tryz.prog.underlying 248 = some (.map 27 3) := by kernel_rfl
 have hz : (zeroValue 3).run Tryz.prog w = .ok (.int .i64 0) w := by kernel_rfl
 have hck := it_checkKey es.isEmpty x w
 rcases it_findKey x w es.toList (fun e he => let ⟨y, _, h⟩ := (h1 e he).1; ⟨y, h⟩) with ⟨k1, k2⟩ | ⟨j, e, k1, k2, k3⟩
 ·refine ⟨0, Nat.zero_le _, ?_, ?_⟩
  ·have : x ∉ M := fun hm => by
    obtain ⟨e, he, hk⟩ := h2 x hm
    exact k2 e he hk
   simp [this]
  ·unfold It.val at k1 ⊢
   simp [Instr.lookup, run_underlying ht, MapKept.run_getObj_map hb, hck, k1, hz]
 ·have he := List.mem_of_getElem? k2
  obtain ⟨⟨y, hy, hk⟩, ⟨c, c1, c2, c3⟩, _⟩ := h1 e he
  refine ⟨c, c2, ?_, ?_⟩
  ·have : x = y := val_inj (k3.symm.trans hk)
   subst this
   simp [hy]
   omega
  ·unfold It.val at k1 ⊢
   simp [Instr.lookup, run_underlying ht, MapKept.run_getObj_map hb, hck, k1, c3]
theorem MpMid.look {w : World} {b : Nat} {M : List It} {x : It} {st B : Nat} (h : MpMid w b M x st B) (y : It) : ∃ c : Nat, c ≤ B ∧ (Instr.lookup 248 (.map (some b)) y.val false).run Tryz.prog w = .ok (.int .i64 (c : Int)) w := by
 obtain ⟨es, clock, hb, h1, h2, i, h3, h4⟩ := h
 have ht : Tryz.prog.underlying 248 = some (.map 27 3) := by kernel_rfl
 have hz : (zeroValue 3).run Tryz.prog w = .ok (.int .i64 0) w := by kernel_rfl
 have hck := it_checkKey es.isEmpty y w
 rcases it_findKey y w es.toList (fun e he => let ⟨y, _, h⟩ := (h1 e he).1; ⟨y, h⟩) with ⟨k1, k2⟩ | ⟨j, e, k1, k2, k3⟩
 ·refine ⟨0, Nat.zero_le _, ?_⟩
  unfold It.val at k1 ⊢
  simp [Instr.lookup, run_underlying ht, MapKept.run_getObj_map hb, hck, k1, hz]
 ·obtain ⟨c, c1, c2, _⟩ := h4 j e k2
  refine ⟨c, c1, ?_⟩
  unfold It.val at k1 ⊢
  simp [Instr.lookup, run_underlying ht, MapKept.run_getObj_map hb, hck, k1, c2]
abbrev putB (w : World) (b : Nat) (o : Obj) : World := { w with heap := w.heap.setIfInBounds b o }
theorem putB_heap {w : World} {b : Nat} {o : Obj} (hb : b < w.heap.size) : (putB w b o).heap[b]? = some o := by
 simp [putB, hb]
theorem MpAt.entry {w : World} {b : Nat} {M : List It} {B : Nat} (h : MpAt w b M B) (x : It) : ∃ (v0 : Value) (st : Nat) (o : Obj), (Instr.mapEntry 248 (.map (some b)) x.val).run Tryz.prog w = .ok (.tuple #[v0, .int .i64 (st : Int)]) (putB w b o) ∧ MpMid (putB w b o) b M x st B := by
 obtain ⟨es, clock, hb, h1, h2⟩ := h
 have hlt := (Array.getElem?_eq_some_iff.1 hb).1
 have ht : Tryz.prog.underlying 248 = some (.map 27 3) := by kernel_rfl
 have hz : (zeroValue 3).run Tryz.prog w = .ok (.int .i64 0) w := by kernel_rfl
 have hck := it_checkKey false x w
 have hst := it_stays x w
 rcases it_findKey x w es.toList (fun e he => let ⟨y, _, h⟩ := (h1 e he).1; ⟨y, h⟩) with ⟨k1, k2⟩ | ⟨j, e, k1, k2, k3⟩
 ·refine ⟨.int .i64 0, clock, .map (es.push ⟨x.val, .int .i64 0, clock⟩) (clock + 1), ?_, es.push ⟨x.val, .int .i64 0, clock⟩, clock + 1, putB_heap hlt, ?_, ?_, es.toList.length, ?_, ?_⟩
  ·unfold It.val at k1 ⊢
   simp [Instr.mapEntry, run_underlying ht, MapKept.run_getObj_map hb, hck, k1, hz, MapKept.run_setObj_map _ hb, goInt]
  ·intro e he
   simp only [Array.toList_push, List.mem_append, List.mem_singleton] at he
   rcases he with he | rfl
   ·obtain ⟨⟨y, hy, hk⟩, _, hc⟩ := h1 e he
    exact ⟨⟨y, List.mem_append_left _ hy, hk⟩, by omega⟩
   ·exact ⟨⟨x, by simp, rfl⟩, by simp⟩
  ·intro y hy
   simp only [Array.toList_push]
   rcases List.mem_append.1 hy with hy | hy
   ·obtain ⟨e, he, hk⟩ := h2 y hy
    exact ⟨e, List.mem_append_left _ he, hk⟩
   ·rw [List.mem_singleton.1 hy]
    exact ⟨_, List.mem_append_right _ (List.mem_singleton.2 rfl), rfl⟩
  ·simp only [Array.toList_push]
   have hno : ∀ (l : List MapEntry), (∀ e ∈ l, e.born < clock) → l.findIdx? (fun e => ((e.born : Nat) : Int) == ((clock : Nat) : Int)) = none := fun l hl => by
    rw [List.findIdx?_eq_none_iff]
    intro e he
    have := hl e he
    simp
    omega
   rw [List.findIdx?_append, hno _ (fun e he => (h1 e he).2.2)]
   simp [List.findIdx?_cons]
  ·intro j e he
   simp only [Array.toList_push] at he
   rcases Nat.lt_or_ge j es.toList.length with hj | hj
   ·rw [List.getElem?_append_left hj] at he
    obtain ⟨_, ⟨c, c1, c2, c3⟩, _⟩ := h1 e (List.mem_of_getElem? he)
    exact ⟨c, c2, c3, fun _ => c1⟩
   ·rw [List.getElem?_append_right hj] at he
    obtain ⟨hj0, he⟩ := List.getElem?_eq_some_iff.1 he
    have hj1 : j = es.toList.length := by
     have : j - es.toList.length < 1 := hj0
     omega
    subst hj1
    simp only [Nat.sub_self, List.getElem_cons_zero] at he
    subst he
    exact ⟨0, Nat.zero_le _, rfl, fun h => absurd rfl h⟩
 ·have he := List.mem_of_getElem? k2
  obtain ⟨⟨y, hy, hk⟩, ⟨c, c1, c2, c3⟩, _⟩ := h1 e he
  have hxy : x = y := val_inj (k3.symm.trans hk)
  subst hxy
  have hej : es[j]? = some e := by simpa using k2
  have hmod : es.modify j (fun e => { e with key := x.val }) = es := by
   apply Array.ext'
   rw [Array.toList_modify]
   apply List.ext_getElem?
   intro i
   rw [List.getElem?_modify]
   by_cases hij : j = i
   ·subst hij
    rw [k2]
    simp only [Option.map_eq_map, Option.map_some, if_pos]
    rw [← k3]
   ·simp [hij]
  obtain ⟨i, hi⟩ : ∃ i, es.toList.findIdx? (fun e' => ((e'.born : Nat) : Int) == ((e.born : Nat) : Int)) = some i := by
   cases hf : es.toList.findIdx? (fun e' => ((e'.born : Nat) : Int) == ((e.born : Nat) : Int)) with
   | some i => exact ⟨i, rfl⟩
   | none =>
    rw [List.findIdx?_eq_none_iff] at hf
    have := hf e he
    simp at this
  refine ⟨.int .i64 (c : Int), e.born, .map es clock, ?_, es, clock, putB_heap hlt, ?_, ?_, i, hi, ?_⟩
  ·unfold It.val at k1 k3 hmod hst ⊢
   simp [Instr.mapEntry, run_underlying ht, MapKept.run_getObj_map hb, hck, k1, hej, k3, hst, hmod, c3, MapKept.run_setObj_map _ hb, goInt]
  ·intro e' he'
   obtain ⟨⟨y, hy, hk⟩, _, hc⟩ := h1 e' he'
   exact ⟨⟨y, List.mem_append_left _ hy, hk⟩, hc⟩
  ·intro y' hy'
   rcases List.mem_append.1 hy' with hy' | hy'
   ·exact h2 y' hy'
   ·rw [List.mem_singleton.1 hy']
    exact ⟨e, he, k3⟩
  ·intro j' e' he'
   obtain ⟨_, ⟨c', c1', c2', c3'⟩, _⟩ := h1 e' (List.mem_of_getElem? he')
   exact ⟨c', c2', c3', fun _ => c1'⟩
theorem MpMid.store {w : World} {b : Nat} {M : List It} {x : It} {st B : Nat} (h : MpMid w b M x st B) (c : Nat) (hc1 : 1 ≤ c) (hc2 : c ≤ B + 1) : ∃ o : Obj, (Instr.entryStore 248 (.map (some b)) (.int .i64 (st : Int)) (.int .i64 (c : Int))).run Tryz.prog w = .ok () (putB w b o) ∧ MpAt (putB w b o) b (M ++ [x]) (B + 1) := by
 obtain ⟨es, clock, hb, h1, h2, i, h3, h4⟩ := h
 have hlt := (Array.getElem?_eq_some_iff.1 hb).1
 have hfi : es.findIdx? (fun e => ((e.born : Nat) : Int) == ((st : Nat) : Int)) = some i := by
  have e1 : es.findIdx? (fun e => ((e.born : Nat) : Int) == ((st : Nat) : Int)) = es.toList.findIdx? (fun e => ((e.born : Nat) : Int) == ((st : Nat) : Int)) := by cases es; simp
  rw [e1]
  exact h3
 refine ⟨.map (es.modify i fun e => { e with val := .int .i64 (c : Int) }) clock, ?_, es.modify i fun e => { e with val := .int .i64 (c : Int) }, clock, putB_heap hlt, ?_, ?_⟩
 ·simp [Instr.entryStore, MapKept.run_getObj_map hb, asInt, asIntOf, hfi, MapKept.run_setObj_map _ hb]
 ·intro e he
  rw [Array.toList_modify] at he
  obtain ⟨j, hj⟩ := List.getElem?_of_mem he
  rw [List.getElem?_modify] at hj
  cases hjj : es.toList[j]? with
  | none => rw [hjj] at hj; simp at hj
  | some e0 =>
   rw [hjj] at hj
   obtain ⟨hk, hbn⟩ := h1 e0 (List.mem_of_getElem? hjj)
   obtain ⟨c', d1, d2, d3⟩ := h4 j e0 hjj
   by_cases hij : i = j
   ·have h5 : ({ e0 with val := .int .i64 (c : Int) } : MapEntry) = e := by simpa [hij] using hj
    subst h5
    exact ⟨hk, ⟨c, hc1, hc2, rfl⟩, hbn⟩
   ·have h5 : e0 = e := by simpa [hij] using hj
    subst h5
    exact ⟨hk, ⟨c', d3 (fun e => hij e.symm), by omega, d2⟩, hbn⟩
 ·intro y hy
  obtain ⟨e, he, hk⟩ := h2 y hy
  obtain ⟨j, hj⟩ := List.getElem?_of_mem he
  rw [Array.toList_modify]
  by_cases hij : i = j
  ·refine ⟨{ e with val := .int .i64 (c : Int) }, ?_, hk⟩
   apply List.mem_of_getElem? (i := j)
   rw [List.getElem?_modify, hj]
   simp [hij]
  ·refine ⟨e, ?_, hk⟩
   apply List.mem_of_getElem? (i := j)
   rw [List.getElem?_modify, hj]
   simp [hij]
end
section
open Go Go.RowKit Go.Lib
def HsAt (w : World) (g b : Nat) (M : List It) : Prop := (∃ B, B ≤ 1000000 ∧ MpAt w b M B) ∧ BoxO w 248 g [.map (some b)]
theorem MpAt.below {w w' : World} {b B : Nat} {M : List It} (h : MpAt w b M B) (hb : Below w.heap.size w w') : MpAt w' b M B := by
 obtain ⟨es, clock, h1, h2⟩ := h
 exact ⟨es, clock, (hb.block b (Array.getElem?_eq_some_iff.1 h1).1).trans h1, h2⟩
theorem MpAt.grown {w w' : World} {b B : Nat} {M : List It} {r : Option Nat} (h : MpAt w b M B) (hg : w.grownBy w' r) (hne : some b ≠ r) : MpAt w' b M B := by
 obtain ⟨es, clock, h1, h2⟩ := h
 exact ⟨es, clock, (hg.block b (Array.getElem?_eq_some_iff.1 h1).1 hne).trans h1, h2⟩
theorem HsAt.below {w w' : World} {g b : Nat} {M : List It} (h : HsAt w g b M) (hb : Below w.heap.size w w') : HsAt w' g b M := ⟨let ⟨B, h1, h2⟩ := h.1; ⟨B, h1, h2.below hb⟩, h.2.below hb⟩
end
section
open Go Go.RowKit Go.Lib Go.Shelf
variable {w w1 w2 : World} {X X1 X2 : Dw} {S S1 S2 : Sd} {Y Y1 Y2 : Yw} {V V1 V2 : Sv}
theorem write_load (S : Sd) (l : List It) : (St.write S l).1.load ≤ S.load + 3 := by
 unfold St.write
 split
 ·simp
 ·have h1 := Sd.create_load S (Mn.name Mn.kTab (St.number S))
  simp only
  split
  ·omega
  ·split
   ·rw [Sd.append_load]
    omega
   ·rw [Sd.sync_load, Sd.append_load]
    omega
theorem Way.tabs {w0 : World} {X0 : Dw} {S0 : Sd} (h : SvAt w0 X0 S0 Y V) (k : Way w0 X0 Y V w X S) {G : List Nat} (hG : ∀ g ∈ G, g ∈ XY X Y ∨ w0.heap.size ≤ g) : Fixed G w fun W => TabsAt W Y.T Y.q V.tabs :=
 h.tabs.step k.c (fun g hg => by
  rcases hG g hg with q | q
  ·exact k.f g q
  ·exact .inr q)
end
section
open Go Go.RowKit Go.Lib Go.Shelf
variable {w w1 w2 : World} {X X1 X2 : Dw} {S S1 S2 : Sd} {Y Y1 Y2 : Yw} {V V1 V2 : Sv}
theorem SvUpd.c (h : SvUpd X Y w w1 S V) : Chg (XY X Y) w w1 := let ⟨_, _, _, _, _, c, _⟩ := h; c
def Aw.yc : List Value := #[.int .i64 3, .int .i64 2, .int .u64 7, .int .u64 9, .int .i64 5].toList
theorem Aw.row {W : World} {g : Nat} (h : BoxO W 27 g Aw.yc) : Row W.heap.size W (some ⟨g, 0, none⟩) 1 5 (itc [Aw.y]) := irow_box (x := Aw.y) h
end
section
open Go Go.RowKit Go.Lib Go.Shelf
attribute [local go_sem] Oper.semAt_some
variable {w w1 w2 : World} {X X1 X2 : Dw} {S S1 S2 : Sd} {Y Y1 Y2 : Yw} {V V1 V2 : Sv} {nb now grace : Nat} {ni : Int}
def St.last (S : Sd) (V : Sv) (l : List It) : Sd × Sv × Bool :=
 if joins V.st l = V.st then ((St.sync S V).1, (St.sync S V).2.1, (St.sync S V).2.2 == 0) else
 if (St.apply S V l).2.2 ≠ 0 then ((St.apply S V l).1, (St.apply S V l).2.1, false) else
 ((St.sync (St.apply S V l).1 (St.apply S V l).2.1).1, (St.sync (St.apply S V l).1 (St.apply S V l).2.1).2.1, (St.sync (St.apply S V l).1 (St.apply S V l).2.1).2.2 == 0)
theorem noInt_box {g : Nat} {b : Bool} (h : BoxO w 4 g [.bool b]) : NoInt w [g] := fun a ha v hv => by
 unfold World.cell? at hv
 rw [List.mem_singleton.1 ha, show w.heap[g]? = _ from h] at hv
 simp only at hv
 split at hv
 ·cases hv
 ·cases hq : a.off with
  | zero => rw [hq] at hv; exact ⟨b, by simpa using hv.symm⟩
  | succ k => rw [hq] at hv; simp at hv
theorem St.sync_tabs (S : Sd) (V : Sv) : (St.sync S V).2.1.tabs = V.tabs := by
 unfold St.sync
 split
 ·rfl
 ·split <;> rfl
theorem St.apply_tabs (S : Sd) (V : Sv) (l : List It) : (St.apply S V l).2.1.tabs = V.tabs := by
 unfold St.apply
 simp only
 repeat' split
 all_goals rfl
theorem int_z (er : Nat) : ((er : Int) == 0) = ((er == 0 : Bool)) := by
 by_cases h : er = 0
 ·subst h; rfl
 ·rw [beq_eq_false_iff_ne.2 h, beq_eq_false_iff_ne]; omega
theorem NdUpd.said {W w0 : World} {g : Nat} (h : NdUpd X Y W w1 S1 V1 nb ni now grace) (hb : Below w0.heap.size w0 W) (ht : V1.tabs = []) (hg0 : w0.heap.size ≤ g) (hng : NG ≤ g) (hgn : g ≠ nb) (hgx : g ∉ XY X Y) (hbx : BoxO W 4 g [.bool false]) (v : Value) : NdUpd X Y w0 (w1.setCell ⟨g, 0, none⟩ v) S1 V1 nb ni now grace := by
 obtain ⟨X1, Y1, e, es, h1, c, f, na⟩ := h
 have hx1 := hbx.chg c hgx
 have hlt := hbx.lt
 have hgx1 : g ∉ XY X1 Y1 := fun hm => by
  rcases f g hm with q | q
  ·exact hgx q
  ·omega
 have hc1 : Chg [g] w1 (w1.setCell ⟨g, 0, none⟩ v) := (Chg.refl [g] w1).setCell _ (.inl (by simp))
 have h2 := h1.tick ht (noInt_box hx1) hc1 (fun x hx => by rw [List.mem_singleton.1 hx]; exact ⟨hgx1, hng, hx1.lt, hgn⟩)
 exact ⟨X1, Y1, e, es, h2, ((Chg.of_below hb _).trans c (fun g hg => .inl hg)).trans hc1 (fun x hx => by rw [List.mem_singleton.1 hx]; exact .inr hg0), fun x hx => (f x hx).imp (fun z => z) (Nat.le_trans hb.size), na.imp (fun z => z) (fun z a ha => Nat.le_trans hb.size (z a ha))⟩
theorem nlast_same (h : NdAt w X S Y V nb ni now grace) (hN : Nrm V) (A : Option Addr) (n c : Nat) (l : List It) (hn : n ≤ 1000) (hr : Row w.heap.size w A n 5 (itc l)) (hj : joins V.st l = V.st) :
  Calls Tryz.prog 44 #[.pointer (some ⟨nb, 0, none⟩), .slice A n c] w fun e w' => e = .returned (.bool (St.last S V l).2.2) ∧ NdUpd X Y w w' (St.last S V l).1 (St.last S V l).2.1 nb ni now grace := by
 have hb1 := (Below.refl w.heap.size w).alloc (Nat.le_refl _) (.cells #[.pointer (some ⟨nb, 0, none⟩)] 42)
 have hb2 := hb1.alloc (by simp) (.cells #[.bool false] 4)
 have hx0 := (BoxO.new w #[.pointer (some ⟨nb, 0, none⟩)] 42).alloc (.cells #[.bool false] 4)
 have hx1 := BoxO.new (w.alloc (.cells #[.pointer (some ⟨nb, 0, none⟩)] 42)) #[.bool false] 4
 rw [World.size_alloc] at hx1
 have h2 := h.below hb2
 have hrl := hr.itlen
 have hlt := h.at_.lt
 have hnl := h.box.lt
 have hbase := h.at_.dm.env.base
 obtain ⟨W, hW⟩ : ∃ W, W = (w.alloc (.cells #[.pointer (some ⟨nb, 0, none⟩)] 42)).alloc (.cells #[.bool false] 4) := ⟨_, rfl⟩
 obtain ⟨R, hR⟩ : ∃ R, R = St.last S V l := ⟨_, rfl⟩
 rw [← hR]
 unfold St.last at hR
 rw [if_pos hj] at hR
 rw [← hW] at hb2 hx0 hx1 h2
 have k1 := h2.box.cell 1
 have t2 := hx0.cell 0
 simp only [gE0, gE1] at k1 t2
 have k1' := k1
 have t2' := t2
 rw [hW] at k1 t2
 have hst := sstate_any h2.at_ (by have := hN.len; omega)
 have HST := Lib.hid hst
 have H2 := Lib.hid h2
 have HX := Lib.hid (And.intro hx0 hx1)
 have HB := Lib.hid hb2
 have HR := Lib.hid hR
 have HROW := Lib.hid ((hr.below hb2).up hb2.size)
 have HM := Lib.hid (And.intro hlt (And.intro hnl hbase))
 have HJ := Lib.hid hj
 have HAL := Lib.hid (h.at_.alen)
 clear hst h2 hx0 hx1 hb2 hb1 hR hr hlt hnl hbase h hj
 go_enter Tryz.func44, Tryz.ntmps44
 go_wp2_with fail
 rw [← hW]
 have HW := Lib.hid hW
 clear k1 t2 hW
 with_reducible refine HST.out.mono ?_
 rintro e w1 ⟨A1, c1, rfl, ho1, hb1⟩
 obtain ⟨A1', c1', hv, hcc1, hcm1, _⟩ := own_form ho1
 injection hv with q1 q2 q3
 subst q1 q3
 have hrow1 := Row.own ho1
 have hjn := join_any A1 Y.A.n c1 V.st A n c l w1 (by have := hN.len; have := HAL.out; omega) hcc1 hcm1 hN.st hrow1 ((HROW.out.below hb1).up hb1.size)
 rw [HJ.out] at hjn
 have HJN := Lib.hid hjn
 have HR1 := Lib.hid hrow1
 have HB1 := Lib.hid hb1
 clear hjn hrow1 hb1 ho1 hcc1 hcm1 HST
 go_wp2_with fail
 with_reducible refine HJN.out.mono ?_
 rintro e w2 ⟨A2, m2, rfl, hm2, hi2, hb2⟩
 have hsm := ssame_any A1 Y.A.n c1 V.st A2 m2 m2 V.st w2 (by have := hN.len; have := HAL.out; omega) (by have := hN.len; omega) ((HR1.out.below hb2).up hb2.size) hi2.row
 rw [decide_eq_true (rfl : V.st = V.st)] at hsm
 have HSM := Lib.hid hsm
 have HB2 := Lib.hid (later_ HB1.out hb2)
 clear hsm hi2 hb2 hm2 HJN HR1
 go_wp2_with fail
 with_reducible refine HSM.out.mono ?_
 rintro e w3 ⟨rfl, hb3⟩
 have hb3' := later_ HB2.out hb3
 have h3 := H2.out.below hb3'
 have hx3 := HX.out.1.below hb3'
 have hx4 := HX.out.2.below hb3'
 have k1 := h3.box.cell 1
 have t2 := hx3.cell 0
 simp only [gE0, gE1] at k1 t2
 have HSY := Lib.hid (ssync_any h3.at_ hN.nm)
 have H3 := Lib.hid h3
 have HX4 := Lib.hid hx4
 have HB3 := Lib.hid (HB.out.trans (hb3'.mono HB.out.size))
 clear hb3 hb3' h3 hx3 hx4 HSM k1' t2'
 go_wp2_with fail
 with_reducible refine HSY.out.mono ?_
 rintro e w4 ⟨rfl, hu⟩
 have hu2 := H3.out.upd hu
 obtain ⟨hm1, hm2, hm3⟩ := HM.out
 have hgx : w.heap.size + 1 ∉ XY X Y := fun hm => by have := hm1 _ hm; omega
 have hsaid := fun v => hu2.said (g := w.heap.size + 1) HB3.out (by rw [St.sync_tabs]; exact hN.tabs) (by omega) (by omega) (by omega) hgx HX4.out v
 have hx5 := HX4.out.chg hu.c hgx
 have c5 := hx5.cell 0
 have f5 := hx5.free 0
 simp only [gE0] at c5
 have HZ := Lib.hid hsaid
 have hiz := int_z (St.sync S V).2.2
 have HR5 := HR.out
 obtain ⟨s1, s2, er, hs⟩ : ∃ s1 s2 er, St.sync S V = (s1, s2, er) := ⟨_, _, _, rfl⟩
 rw [hs] at HZ HR5 hiz ⊢
 simp only at HZ HR5 hiz ⊢
 obtain ⟨b, hb⟩ : ∃ b, b = (er == 0) := ⟨_, rfl⟩
 rw [← hb] at HR5 hiz
 have HR6 := Lib.hid HR5
 clear hsaid hu2 hu HR5 hs hb hx5 hm1 hm2 hm3 hgx k1 t2
 go_wp2
 refine bodyPost_ret (v := .bool b) (by simp [results, go_sem, *]) rfl ?_
 rw [HR6.out]
 exact ⟨rfl, HZ.out _⟩
end
section
open Go Go.RowKit Go.Lib Go.Shelf
attribute [local go_sem] Oper.semAt_some
variable {w w1 w2 : World} {X X1 X2 : Dw} {S S1 S2 : Sd} {Y Y1 Y2 : Yw} {V V1 V2 : Sv} {nb now grace : Nat} {ni : Int}
theorem LoopAt.noInt {B : Nat} (h : LoopAt B w) : NoInt w [B, B + 1] := fun a ha v hv => by
 obtain ⟨h1, r, h2⟩ := h
 unfold World.cell? at hv
 rcases List.mem_cons.1 ha with e | e
 ·rw [e, h1] at hv
  cases hv
 ·rw [List.mem_singleton.1 e, h2] at hv
  cases hv
theorem LoopAt.lt {B : Nat} (h : LoopAt B w) : B + 1 < w.heap.size := let ⟨_, _, h2⟩ := h; (Array.getElem?_eq_some_iff.1 h2).1
def LastK (X : Dw) (Y : Yw) (w0 : World) (B g : Nat) (nb : Nat) (ni : Int) (now grace : Nat) (S1 : Sd) (V1 : Sv) (W : World) : Prop := ∃ X1 Y1, X1.d = X.d ∧ Y1.s = Y.s ∧ NdAt W X1 S1 Y1 V1 nb ni now grace ∧ Chg (XY X Y) w0 W ∧ (∀ g ∈ XY X1 Y1, g ∈ XY X Y ∨ w0.heap.size ≤ g) ∧ (B ∉ XY X1 Y1 ∧ B + 1 ∉ XY X1 Y1 ∧ g + 1 ∉ XY X1 Y1) ∧ LoopAt B W ∧ V1.tabs = [] ∧ (w0.heap.size ≤ g ∧ g + 1 < B ∧ nb < g ∧ NG ≤ g ∧ NewA w0 Y Y1) ∧ BoxO W 42 g [.pointer (some ⟨nb, 0, none⟩)] ∧ BoxO W 4 (g + 1) [.bool false]
theorem LastK.step {w0 : World} {B g : Nat} (h : LastK X Y w0 B g nb ni now grace S1 V1 w1) (c : Chg [B, B + 1] w1 w2) (hl : LoopAt B w2) : LastK X Y w0 B g nb ni now grace S1 V1 w2 := by
 obtain ⟨X1, Y1, e, es, h1, hc, hf, hb, hla, ht, hg, x1, x2⟩ := h
 have hlt := hla.lt
 refine ⟨X1, Y1, e, es, h1.tick ht hla.noInt c (fun y hy => ?_), hc.trans c (fun y hy => .inr ?_), hf, hb, hl, ht, hg, x1.chg c (fun hm => by simp at hm; omega), x2.chg c (fun hm => by simp at hm; omega)⟩
 ·rcases List.mem_cons.1 hy with rfl | hy
  ·exact ⟨hb.1, by omega, by omega, by omega⟩
  ·rw [List.mem_singleton.1 hy]
   exact ⟨hb.2.1, by omega, by omega, by omega⟩
 ·simp at hy
  omega
theorem nlast_new (h : NdAt w X S Y V nb ni now grace) (hN : Nrm V) (A : Option Addr) (n c : Nat) (l : List It) (h0 : 0 < n) (hn : n ≤ 1000) (hnc : n ≤ c) (hr : Row w.heap.size w A n 5 (itc l)) (hA : ∀ a, A = some a → a.block ∉ XY X Y) (hfit : ∀ x ∈ l, x.fit) (hj : joins V.st l ≠ V.st) :
  Calls Tryz.prog 44 #[.pointer (some ⟨nb, 0, none⟩), .slice A n c] w fun e w' => e = .returned (.bool (St.last S V l).2.2) ∧ NdUpd X Y w w' (St.last S V l).1 (St.last S V l).2.1 nb ni now grace := by
 have hb1 := (Below.refl w.heap.size w).alloc (Nat.le_refl _) (.cells #[.pointer (some ⟨nb, 0, none⟩)] 42)
 have hb2 := hb1.alloc (by simp) (.cells #[.bool false] 4)
 have hx0 := (BoxO.new w #[.pointer (some ⟨nb, 0, none⟩)] 42).alloc (.cells #[.bool false] 4)
 have hx1 := BoxO.new (w.alloc (.cells #[.pointer (some ⟨nb, 0, none⟩)] 42)) #[.bool false] 4
 rw [World.size_alloc] at hx1
 have h2 := h.below hb2
 have hrl := hr.itlen
 have hlt := h.at_.lt
 have hnl := h.box.lt
 have hbase := h.at_.dm.env.base
 obtain ⟨W, hW⟩ : ∃ W, W = (w.alloc (.cells #[.pointer (some ⟨nb, 0, none⟩)] 42)).alloc (.cells #[.bool false] 4) := ⟨_, rfl⟩
 obtain ⟨R, hR⟩ : ∃ R, R = St.last S V l := ⟨_, rfl⟩
 rw [← hR]
 unfold St.last at hR
 rw [if_neg hj] at hR
 rw [← hW] at hb2 hx0 hx1 h2
 have k1 := h2.box.cell 1
 have t2 := hx0.cell 0
 simp only [gE0, gE1] at k1 t2
 have k1' := k1
 have t2' := t2
 rw [hW] at k1 t2
 have hst := sstate_any h2.at_ (by have := hN.len; omega)
 have HST := Lib.hid hst
 have H2 := Lib.hid h2
 have HX := Lib.hid (And.intro hx0 hx1)
 have HB := Lib.hid hb2
 have HR := Lib.hid hR
 have HROW := Lib.hid ((hr.below hb2).up hb2.size)
 have HM := Lib.hid (And.intro hlt (And.intro hnl hbase))
 have HJ := Lib.hid hj
 have HAL := Lib.hid (h.at_.alen)
 clear hst h2 hx0 hx1 hb2 hb1 hR hr hlt hnl hbase h hj
 refine (callsIn_wide (n := 6)).1 ?_
 refine callsIn_of_wp_marks Tryz.func44 rfl trivial ?_ rfl
 simp only [Tryz.ntmps44, List.size_toArray, List.length_cons, List.length_nil, Nat.reduceAdd, Nat.reduceSub, Array.replicate_succ, Array.replicate_zero, List.push_toArray, List.append_toArray, List.nil_append, List.cons_append]
 gi_wp2_with fail
 rw [← hW]
 have HW := Lib.hid hW
 clear k1 t2 hW
 refine ⟨trivial, ?_⟩
 with_reducible refine (callsIn_wide.2 HST.out).mono ?_
 rintro e w1 ⟨A1, c1, rfl, ho1, hb1⟩
 obtain ⟨A1', c1', hv, hcc1, hcm1, _⟩ := own_form ho1
 injection hv with q1 q2 q3
 subst q1 q3
 have hrow1 := Row.own ho1
 have hjn := join_any A1 Y.A.n c1 V.st A n c l w1 (by have := hN.len; have := HAL.out; omega) hcc1 hcm1 hN.st hrow1 ((HROW.out.below hb1).up hb1.size)
 have hjl := joins_len l V.st
 obtain ⟨J, hJ⟩ : ∃ J, J = joins V.st l := ⟨_, rfl⟩
 rw [← hJ] at hjn hjl
 have HJN := Lib.hid hjn
 have HR1 := Lib.hid hrow1
 have HB1 := Lib.hid hb1
 have HJ2 := Lib.hid hJ
 clear hjn hrow1 hb1 ho1 hcc1 hcm1 HST hJ
 gi_wp2_with fail
 refine ⟨trivial, ?_⟩
 with_reducible refine (callsIn_wide.2 HJN.out).mono ?_
 rintro e w2 ⟨A2, m2, rfl, hm2, hi2, hb2⟩
 have hsm := ssame_any A1 Y.A.n c1 V.st A2 m2 m2 J w2 (by have := hN.len; have := HAL.out; omega) (by have := hN.len; omega) ((HR1.out.below hb2).up hb2.size) hi2.row
 rw [decide_eq_false (show ¬ V.st = J from fun e => HJ.out (by rw [← HJ2.out]; exact e.symm))] at hsm
 have HSM := Lib.hid hsm
 have HB2 := Lib.hid (later_ HB1.out hb2)
 clear hsm hi2 hb2 hm2 HJN HR1 hjl
 gi_wp2_with fail
 refine ⟨trivial, ?_⟩
 with_reducible refine (callsIn_wide.2 HSM.out).mono ?_
 rintro e w3 ⟨rfl, hb3⟩
 have HB3 := Lib.hid (later_ HB2.out hb3)
 clear hb3 HSM
 gi_wp2_with (refine ⟨trivial, ?_⟩; gi_at_call 106; refine (chunk_in Fence.wide 5 trivial rfl A n c 1000 (by omega) _).mono ?_; rintro e w' ⟨rfl, rfl⟩)
 have bS := BoxO.new w3 #[.slice A n c] 24
 have bM := BoxO.new (w3.alloc (.cells #[.slice A n c] 24)) #[.int .i64 ((1000 : Nat) : Int)] 3
 rw [World.size_alloc] at bM
 have hb4 := ((Below.refl w3.heap.size w3).alloc (Nat.le_refl _) (.cells #[.slice A n c] 24)).alloc (by simp) (.cells #[.int .i64 ((1000 : Nat) : Int)] 3)
 obtain ⟨p, rfl⟩ : ∃ p, A = some p := by
  obtain ⟨a, _, e, _⟩ := HROW.out.it h0
  exact ⟨a, e⟩
 have hst := chunk_two Fence.wide 5 trivial rfl (by omega) w3.heap.size (w3.heap.size + 1) (fun W W' => W'.heap[w3.heap.size]? = W.heap[w3.heap.size]? ∧ W'.heap[w3.heap.size + 1]? = W.heap[w3.heap.size + 1]?) (fun W W' h => ⟨World.cell?_of_block h.1, World.cell?_of_block h.2⟩) p n c 1000 l hrl (by omega) (by omega) (by omega) hnc (N := 1) (fun k hk => by omega) ((w3.alloc (.cells #[.slice (some p) n c] 24)).alloc (.cells #[.int .i64 ((1000 : Nat) : Int)] 3)) (by simp; omega) (by simp) ((bS.alloc (.cells #[.int .i64 ((1000 : Nat) : Int)] 3)).cell 0) (bM.cell 0)
 rw [show ((1000 : Nat) : Int) = (1000 : Int) from rfl] at hst hb4
 obtain ⟨W4, hW4⟩ : ∃ W4, W4 = (w3.alloc (.cells #[.slice (some p) n c] 24)).alloc (.cells #[.int .i64 1000] 3) := ⟨_, rfl⟩
 have hs4 : W4.heap.size = w3.heap.size + 2 := by rw [hW4]; simp
 rw [← hW4] at hst hb4 ⊢
 have hxb := HX.out.1.below HB3.out
 have hxc := HX.out.2.below HB3.out
 have hx4 := (hxb.below hb4)
 have hx5 := (hxc.below hb4)
 have h4 := (H2.out.below HB3.out).below hb4
 have hbW : Below w.heap.size w W4 := HB.out.trans ((later_ HB3.out hb4).mono HB.out.size)
 have hcut : Tb.cut 1000 n l = [l] := by
  have : l ≠ [] := fun e => by rw [e] at hrl; simp at hrl; omega
  obtain ⟨k, rfl⟩ : ∃ k, n = k + 1 := ⟨n - 1, by omega⟩
  unfold Tb.cut
  rw [if_neg this, List.take_of_length_le (by omega), List.drop_eq_nil_of_le (by omega)]
  cases k <;> simp [Tb.cut]
 have hgl : w.heap.size + 1 < w3.heap.size := by have := hxc.lt; exact this
 have HX4 := Lib.hid (And.intro hx4 hx5)
 have H4 := Lib.hid h4
 have HBW := Lib.hid hbW
 have HS4 := Lib.hid hs4
 clear hW4 hs4 hxb hxc hx4 hx5 h4 hbW bS bM
 refine wpIn_rangeFunc_two (α := Ck 1000 n) (n := 6) (encs := fun x => #[Ck.val p x]) rfl (by omega) (gf := 176) (lb := #[.pointer (some ⟨w3.heap.size, 0, none⟩), .pointer (some ⟨w3.heap.size + 1, 0, none⟩)]) rfl trivial (enters_of Tryz.func176 (by kernel_rfl) rfl) hst (fun h k => ⟨k.1.trans h.1, k.2.trans h.2⟩) ?hKb (Below.refl _ _) (fun _ => rfl)
  (fun pre W => (pre = [] ∧ Below W4.heap.size W4 W) ∨ (pre.length = 1 ∧ (St.apply S V l).2.2 = 0 ∧ LastK X Y w W4.heap.size w.heap.size nb ni now grace (St.apply S V l).1 (St.apply S V l).2.1 W))
  (fun c pre W => c = .ret ∧ (St.apply S V l).2.2 ≠ 0 ∧ LastK X Y w W4.heap.size w.heap.size nb ni now grace (St.apply S V l).1 (St.apply S V l).2.1 W) ?hI ?hIx (.inl ⟨rfl, Below.refl _ _⟩)
  (fun x => { tmps := #[.pointer (some ⟨nb, 0, none⟩), .slice (some p) n c, .pointer (some ⟨w.heap.size, 0, none⟩), undef, .pointer (some ⟨w.heap.size + 1, 0, none⟩), .slice A1 Y.A.n c1, Ck.val p x, .pointer (some ⟨nb, 0, none⟩), .pointer (some ⟨nb, 0, none⟩), .pointer (some ⟨nb, 1, none⟩), .pointer (some ⟨Y.s, 0, none⟩), .slice A1 Y.A.n c1, .slice A1 Y.A.n c1, .slice A1 Y.A.n c1, .slice (some p) n c, .slice A2 m2 m2, .bool false, .bool true, .slice (some p) n c, .func (.func 176) #[] #[.pointer (some ⟨w3.heap.size, 0, none⟩), .pointer (some ⟨w3.heap.size + 1, 0, none⟩)], Ck.val p x, undef, undef, undef, undef, undef, undef, undef, undef, undef, undef, undef, undef, undef], defers := [] }) ?assig ?body ?done ?stop
 case hKb =>
  have hs4 := HS4.out
  intro W l2 o' hl
  exact ⟨World.putObj_heap_other (by omega), World.putObj_heap_other (by omega)⟩
 case hI =>
  rintro pre W W' (⟨h1, h2⟩ | ⟨h1, h2, h3⟩) hc hl
  ·exact .inl ⟨h1, h2.trans (hc.below h2.size (fun g hg => by simp at hg; omega))⟩
  ·exact .inr ⟨h1, h2, h3.step hc hl⟩
 case hIx =>
  rintro c2 pre W W' ⟨h1, h2, h3⟩ hc hl
  exact ⟨h1, h2, h3.step hc hl⟩
 case assig =>
  intro l2 x W K hK
  gi_wp2
  exact hK
 case body =>
  have hs4 := HS4.out
  rintro l2 pre x W5 hla hI hlt
  obtain ⟨rfl, hbl⟩ := hI.resolve_right (fun h => by omega)
  have hx0 : x.1 = 0 := by have := x.2; omega
  have hv : Ck.val p x = .slice (some p) n n := by
   unfold Ck.val Ck.len
   rw [hx0]
   simp only [Nat.zero_mul, Nat.sub_zero]
   rw [Nat.min_eq_right (by omega)]
   rfl
  have h5 := H4.out.below hbl
  have hx5 := HX4.out.1.below hbl
  have hx6 := HX4.out.2.below hbl
  have k1 := h5.box.cell 1
  have t2 := hx5.cell 0
  have t4 := hx6.cell 0
  have f4 := hx6.free 0
  simp only [gE0, gE1] at k1 t2 t4
  have hrw := (HROW.out.below (HB3.out.trans ((later_ (Below.refl _ _) hb4).mono HB3.out.size)))
  have hap := sapplyA_any h5.at_ (some p) n n l (by omega) ((hrw.below (hbl.mono (by have := HB3.out.size; omega))).up (Nat.le_trans HB3.out.size (Nat.le_trans hb4.size hbl.size))) hA hfit hN.st (by have := hN.len; omega) (by have := hN.sz; omega) (by have := hN.ct; omega) (by have := hN.mem; omega) hN.nm
  obtain ⟨r, hr⟩ : ∃ r, r = St.apply S V l := ⟨_, rfl⟩
  have htb := St.apply_tabs S V l
  rw [← hr] at hap htb ⊢
  obtain ⟨S1, V1, er⟩ := r
  unfold SvPostA at hap
  simp only at hap htb ⊢
  have HLA := Lib.hid hla
  have H5 := Lib.hid h5
  have HX5 := Lib.hid (And.intro hx5 hx6)
  have HAP := Lib.hid hap
  have HBL := Lib.hid hbl
  have HT := Lib.hid htb
  clear hap hr hbl hx5 hx6 h5 hla hrw hst hI htb
  rw [hv]
  clear hs4
  gi_wp2_with fail
  refine ⟨trivial, ?_⟩
  with_reducible refine (CallsIn.inRound l2 (callsIn_wide.2 HAP.out)).mono ?_
  rintro e w6 ⟨rfl, hu⟩
  have hs4 := HS4.out
  have hlx := H5.out.at_.lt
  have hnx := HX5.out.2.lt
  have hlaw := HLA.out.lt
  obtain ⟨hm1, hm2, hm3⟩ := HM.out
  have hgx : ∀ g, w.heap.size ≤ g → g ∉ XY X Y := fun g hg hm => by have := hm1 g hm; omega
  have hc := hu.c
  have hcsz := hc.size
  have hkeep : KeepsFrom W4.heap.size W5 w6 := ⟨hc.size, fun k o hk ho hco => (hc.block k (Array.getElem?_eq_some_iff.1 ho).1 (hgx k (by have := HBW.out.size; omega))).trans ho⟩
  have hkp : w6.heap[w3.heap.size]? = W5.heap[w3.heap.size]? ∧ w6.heap[w3.heap.size + 1]? = W5.heap[w3.heap.size + 1]? := ⟨hc.block _ (by omega) (hgx _ (by omega)), hc.block _ (by omega) (hgx _ (by omega))⟩
  have hla6 : LoopAt W4.heap.size w6 := ⟨(hc.block _ (by omega) (hgx _ (by omega))).trans HLA.out.1, HLA.out.2.imp fun r h => (hc.block _ (by omega) (hgx _ (by omega))).trans h⟩
  have hx7 := HX5.out.1.chg hc (hgx _ (Nat.le_refl _))
  have hx8 := HX5.out.2.chg hc (hgx _ (by omega))
  have t4b := hx8.cell 0
  have f4b := hx8.free 0
  simp only [gE0] at t4b
  have hK6 : LastK X Y w W4.heap.size w.heap.size nb ni now grace S1 V1 w6 := by
   obtain ⟨X1, Y1, e, es, h1, c, f, na⟩ := H5.out.upd hu
   have hbw := HBW.out.trans (HBL.out.mono HBW.out.size)
   have hno : ∀ g, w.heap.size ≤ g → g < W5.heap.size → g ∉ XY X1 Y1 := fun g hg hl hm => by
    rcases f g hm with q | q
    ·exact hgx g hg q
    ·omega
   exact ⟨X1, Y1, e, es, h1, (Chg.of_below hbw _).trans c (fun g hg => .inl hg), fun g hg => (f g hg).imp (fun z => z) (Nat.le_trans hbw.size), ⟨hno _ (by omega) (by omega), hno _ (by omega) (by omega), hno _ (by omega) (by omega)⟩, hla6, by rw [HT.out]; exact hN.tabs, ⟨Nat.le_refl _, by omega, hm2, hm3, na.imp (fun z => z) (fun z a ha => Nat.le_trans hbw.size (z a ha))⟩, hx7, hx8⟩
  have HK6 := Lib.hid hK6
  have HKE := Lib.hid (And.intro hkeep hkp)
  by_cases h0 : er = 0
  ·subst h0
   clear hs4 hcsz hK6 hkeep hkp hla6 hx7 hx8 hc hlx hnx hlaw hm1 hm2 hm3 hgx hu t4 f4 k1 t2
   gi_wp2
   exact ⟨HKE.out.1, HKE.out.2, .inr ⟨rfl, HK6.out⟩⟩
  ·have e1 : ((er : Int) == 0) = false := by simp; omega
   have hK7 : LastK X Y w W4.heap.size w.heap.size nb ni now grace S1 V1 (w6.setCell ⟨w.heap.size + 1, 0, none⟩ (.bool false)) := by
    obtain ⟨X1, Y1, e, es, h1, c, f, hb, hla, ht, hg, x1, x2⟩ := hK6
    have hcs : Chg [w.heap.size + 1] w6 (w6.setCell ⟨w.heap.size + 1, 0, none⟩ (.bool false)) := (Chg.refl _ w6).setCell _ (.inl (by simp))
    have hne : ∀ g, g ≠ w.heap.size + 1 → g ∉ [w.heap.size + 1] := fun g hg hm => hg (List.mem_singleton.1 hm)
    exact ⟨X1, Y1, e, es, h1.tick ht (noInt_box x2) hcs (fun y hy => by rw [List.mem_singleton.1 hy]; exact ⟨hb.2.2, by omega, x2.lt, by omega⟩), c.trans hcs (fun y hy => by rw [List.mem_singleton.1 hy]; exact .inr (by omega)), f, hb, ⟨(hcs.block _ (by omega) (hne _ (by omega))).trans hla.1, hla.2.imp fun r h => (hcs.block _ (by omega) (hne _ (by omega))).trans h⟩, ht, hg, x1.chg hcs (hne _ (by omega)), x2.store 0 (.bool false)⟩
   have hke7 : KeepsFrom W4.heap.size W5 (w6.setCell ⟨w.heap.size + 1, 0, none⟩ (.bool false)) := by
    have hcs : Chg [w.heap.size + 1] w6 (w6.setCell ⟨w.heap.size + 1, 0, none⟩ (.bool false)) := (Chg.refl _ w6).setCell _ (.inl (by simp))
    exact ⟨Nat.le_trans hc.size hcs.size, fun k o hk ho hco => (hcs.block k (Nat.lt_of_lt_of_le (Array.getElem?_eq_some_iff.1 ho).1 hc.size) (fun hm => by have := List.mem_singleton.1 hm; omega)).trans (hkeep.same k o hk ho hco)⟩
   have HK7 := Lib.hid hK7
   have HKE7 := Lib.hid hke7
   have H0 := Lib.hid h0
   clear hs4 hcsz hK6 hkeep hkp hla6 hx7 hx8 hc hlx hnx hlaw hm1 hm2 hm3 hgx hu t4 f4 k1 t2 hK7 hke7 h0
   gi_wp2
   exact ⟨HKE7.out, rfl, H0.out, HK7.out⟩
 case done =>
  rintro D ys W5 hD hys hI hK hDe
  obtain ⟨hy1, he0, X1, Y1, e, es, h5, c, f, hb, hla, ht, hg, x1, x2⟩ := hI.resolve_left (fun h => by
   rw [h.1, hcut] at hys
   cases hys)
  have k1 := h5.box.cell 1
  have t2 := x1.cell 0
  simp only [gE0, gE1] at k1 t2
  have hsy := ssync_any h5.at_ (by
   have : (St.apply S V l).2.1.nm = V.nm := by
    unfold St.apply
    simp only
    repeat' split
    all_goals rfl
   rw [this]
   exact hN.nm)
  have HSY := Lib.hid hsy
  clear hsy hI hst
  obtain ⟨r, hr⟩ : ∃ r, r = St.apply S V l := ⟨_, rfl⟩
  rw [← hr] at he0 h5 ht HSY
  have HR5 := HR.out
  rw [← hr] at HR5
  obtain ⟨S1, V1, er⟩ := r
  simp only at he0 h5 ht HSY HR5
  rw [if_neg (by simp [he0])] at HR5
  have HR6 := Lib.hid HR5
  have H5 := Lib.hid h5
  have HC := Lib.hid (And.intro e (And.intro es (And.intro c (And.intro f (And.intro hb hg)))))
  have HX5 := Lib.hid (And.intro x1 x2)
  have HLA := Lib.hid hla
  have HT := Lib.hid ht
  have HDE := Lib.hid hDe
  have HK := Lib.hid hK
  clear HR5 h5 e es c f hb hg x1 x2 hla ht hDe hK he0 hr hys hy1 hD
  gi_wp2_with fail
  refine ⟨trivial, ?_⟩
  with_reducible refine (callsIn_wide.2 HSY.out).mono ?_
  rintro e w6 ⟨rfl, hu⟩
  have hu2 := H5.out.upd hu
  obtain ⟨e, es, c, f, hb, hg⟩ := HC.out
  have hlt5 := HLA.out.lt
  have hlx := H5.out.at_.lt
  have hx6 := HX5.out.2.chg hu.c hb.2.2
  have c4 := hx6.cell 0
  have f4 := hx6.free 0
  simp only [gE0] at c4
  have hiz := int_z (St.sync S1 V1).2.2
  have htb := St.sync_tabs S1 V1
  obtain ⟨s2, v2, er2, hs⟩ : ∃ s1 s2 er, St.sync S1 V1 = (s1, s2, er) := ⟨_, _, _, rfl⟩
  have HR7 := HR6.out
  rw [hs] at hu2 HR7 hiz htb ⊢
  simp only at hu2 HR7 hiz htb ⊢
  obtain ⟨b, hbe⟩ : ∃ b, b = (er2 == 0) := ⟨_, rfl⟩
  rw [← hbe] at HR7 hiz
  have HR8 := Lib.hid HR7
  have hde := HDE.out
  have hk6 : w6.heap[D]? = some (.deferred (some [])) := (hu.c.block D (by rw [hde]; omega) (by rw [hde]; exact hb.1)).trans HK.out
  have hk7 : ∀ v, (w6.setCell ⟨w.heap.size + 1, 0, none⟩ v).heap[D]? = some (.deferred (some [])) := fun v => (((Chg.refl [w.heap.size + 1] w6).setCell (p := ⟨w.heap.size + 1, 0, none⟩) v (.inl (by simp))).block D (Array.getElem?_eq_some_iff.1 hk6).1 (fun hm => by have := List.mem_singleton.1 hm; omega)).trans hk6
  have hfin : ∀ v, NdUpd X Y w ((w6.setCell ⟨w.heap.size + 1, 0, none⟩ v).putObj D (.deferred none)) s2 v2 nb ni now grace := fun v => by
   obtain ⟨X2, Y2, e2, es2, h6, c6, f6, n6⟩ := hu2
   have hno : ∀ y, y ∉ XY X1 Y1 → y < W5.heap.size → y ∉ XY X2 Y2 := fun y h1 h2 hm => by
    rcases f6 y hm with q | q
    ·exact h1 q
    ·omega
   have ht2 : v2.tabs = [] := by rw [htb]; exact HT.out
   have hcs : Chg [w.heap.size + 1] w6 (w6.setCell ⟨w.heap.size + 1, 0, none⟩ v) := (Chg.refl _ w6).setCell _ (.inl (by simp))
   have h7 := h6.tick ht2 (noInt_box hx6) hcs (fun y hy => by rw [List.mem_singleton.1 hy]; exact ⟨hno _ hb.2.2 (by omega), by omega, hx6.lt, by omega⟩)
   have hcd : Chg [D] (w6.setCell ⟨w.heap.size + 1, 0, none⟩ v) ((w6.setCell ⟨w.heap.size + 1, 0, none⟩ v).putObj D (.deferred none)) := ⟨rfl, rfl, rfl, by simp, fun y _ hy => World.putObj_heap_other (fun e => hy (by simp [e]))⟩
   have h8 := h7.tick ht2 (G := [D]) (fun a ha u hu => by
    unfold World.cell? at hu
    rw [List.mem_singleton.1 ha, hk7 v] at hu
    cases hu) hcd (fun y hy => by rw [List.mem_singleton.1 hy]; exact ⟨by rw [hde]; exact hno _ hb.1 (by omega), by omega, (Array.getElem?_eq_some_iff.1 (hk7 v)).1, by omega⟩)
   exact ⟨X2, Y2, e2.trans e, es2.trans es, h8, ((c.trans c6 f).trans hcs (fun y hy => by rw [List.mem_singleton.1 hy]; exact .inr (by omega))).trans hcd (fun y hy => by rw [List.mem_singleton.1 hy]; exact .inr (by omega)), fun y hy => by
    rcases f6 y hy with q | q
    ·exact f y q
    ·exact .inr (Nat.le_trans c.size q), hg.2.2.2.2.trans n6 c.size⟩
  have HFIN := Lib.hid hfin
  have HK7 := Lib.hid hk7
  clear hfin hk7 hk6 hde hu2 hu e es c f hb hg hlt5 hlx hx6 htb hs hbe HR7 k1 t2
  gi_wp2
  refine ⟨by simp, .inl ⟨_, _, rfl, run_takeDeferred (HK7.out _), ?_⟩⟩
  have hcell : ((w6.setCell ⟨w.heap.size + 1, 0, none⟩ (.bool b)).putObj D (.deferred none)).cell? ⟨w.heap.size + 1, 0, none⟩ = some (.bool b) := (World.cell?_of_block (World.putObj_heap_other (fun e => by have := HK7.out (.bool b); rw [← e] at this; have h9 := World.cell?_setCell_same w6 ⟨w.heap.size + 1, 0, none⟩ (.bool b) c4; unfold World.cell? at h9; rw [this] at h9; cases h9))).trans (World.cell?_setCell_same w6 ⟨w.heap.size + 1, 0, none⟩ (.bool b) c4)
  refine ⟨.bool b, by simp [results, go_sem, hcell], ?_⟩
  rw [HR8.out]
  exact ⟨rfl, HFIN.out _⟩
 case stop =>
  rintro D c2 pre W5 hD _ ⟨rfl, hne, X1, Y1, e, es, h5, c, f, hb, hla, ht, hg, x1, x2⟩ hK hDe
  have HR5 := HR.out
  rw [if_pos hne] at HR5
  have hlt5 := hla.lt
  have hcd : Chg [D] W5 (W5.putObj D (.deferred none)) := ⟨rfl, rfl, rfl, by simp, fun y _ hy => World.putObj_heap_other (fun e => hy (by simp [e]))⟩
  have h8 := h5.tick ht (G := [D]) (fun a ha u hu => by
   unfold World.cell? at hu
   rw [List.mem_singleton.1 ha, hK] at hu
   cases hu) hcd (fun y hy => by rw [List.mem_singleton.1 hy]; exact ⟨by rw [hDe]; exact hb.1, by omega, by omega, by omega⟩)
  have hfin : NdUpd X Y w (W5.putObj D (.deferred none)) (St.apply S V l).1 (St.apply S V l).2.1 nb ni now grace := ⟨X1, Y1, e, es, h8, c.trans hcd (fun y hy => by rw [List.mem_singleton.1 hy]; exact .inr (by omega)), f, hg.2.2.2.2⟩
  have hcell : (W5.putObj D (.deferred none)).cell? ⟨w.heap.size + 1, 0, none⟩ = some (.bool false) := (World.cell?_of_block (World.putObj_heap_other (fun e => by have e2 : w.heap.size + 1 = D := e; omega))).trans (x2.cell 0)
  have HFIN := Lib.hid hfin
  have HR8 := Lib.hid HR5
  have HK := Lib.hid hK
  clear hfin HR5 hK h8 hcd hlt5 hne e es h5 c f hb hla ht hg x1 x2
  gi_wp2
  refine ⟨by simp, .inl ⟨_, _, rfl, run_takeDeferred HK.out, ?_⟩⟩
  refine ⟨.bool false, by simp [results, go_sem, hcell], ?_⟩
  rw [HR8.out]
  exact ⟨rfl, HFIN.out⟩
theorem nlast_any (h : NdAt w X S Y V nb ni now grace) (hN : Nrm V) (A : Option Addr) (n c : Nat) (l : List It) (hn : n ≤ 1000) (hnc : n ≤ c) (hr : Row w.heap.size w A n 5 (itc l)) (hA : ∀ a, A = some a → a.block ∉ XY X Y) (hfit : ∀ x ∈ l, x.fit) :
  Calls Tryz.prog 44 #[.pointer (some ⟨nb, 0, none⟩), .slice A n c] w fun e w' => e = .returned (.bool (St.last S V l).2.2) ∧ NdUpd X Y w w' (St.last S V l).1 (St.last S V l).2.1 nb ni now grace := by
 by_cases hj : joins V.st l = V.st
 ·exact nlast_same h hN A n c l hn hr hj
 ·refine nlast_new h hN A n c l ?_ hn hnc hr hA hfit hj
  rcases Nat.eq_zero_or_pos n with h0 | h0
  ·have := hr.itlen
   have hl : l = [] := List.length_eq_zero_iff.1 (by omega)
   rw [hl] at hj
   exact absurd rfl hj
  ·exact h0
end
section
open Go Go.RowKit Go.Lib Go.Shelf
variable {w w1 w2 : World}
structure Mq where
 k : Int
 frm : Int
 to_ : Int
 id : Nat
 no : Nat
 A : Option Addr
 n : Nat
 c : Nat
def Mq.val (m : Mq) : Value := .agg #[.int .i64 m.k, .int .i64 m.frm, .int .i64 m.to_, .int .u64 (m.id : Int), .int .u64 (m.no : Int), .slice m.A m.n m.c]
def Mq.cells (m : Mq) : List Value := [.int .i64 m.k, .int .i64 m.frm, .int .i64 m.to_, .int .u64 (m.id : Int), .int .u64 (m.no : Int), .slice m.A m.n m.c]
structure Mq.Good (m : Mq) (l : List It) : Prop where
 k : 1 ≤ m.k ∧ m.k ≤ 10
 frm : 0 ≤ m.frm ∧ m.frm < 7
 to_ : 0 ≤ m.to_ ∧ m.to_ < 7
 id : m.id ≤ 1099511627776
 no : m.no ≤ 281474976710656
 n : m.n ≤ 1500
 all : l.all It.ok = true
 has : m.n = 0 ∨ m.k = 1 ∨ m.k = 8
theorem isnode_yes (x : Int) (h : 0 ≤ x ∧ x < 7) (w : World) : Calls Tryz.prog 102 #[.int .i64 x] w fun e w' => e = .returned (.bool true) ∧ w' = w := by
 have h1 : ((0 : Int) ≤ x) = True := eq_true h.1
 have h2 : (x < (7 : Int)) = True := eq_true h.2
 go_enter Tryz.func102, Tryz.ntmps102
 go_wp2
 go_ret
 exact ⟨rfl, rfl⟩
theorem witems_yes (x : Int) (h : x = 1 ∨ x = 8) (w : World) : Calls Tryz.prog 103 #[.int .i64 x] w fun e w' => e = .returned (.bool true) ∧ w' = w := by
 rcases h with rfl | rfl <;>
 ·go_enter Tryz.func103, Tryz.ntmps103
  go_wp2
  go_ret
  exact ⟨rfl, rfl⟩
theorem mok_yes (m : Mq) (l : List It) (w : World) (hg : m.Good l) (hr : Row w.heap.size w m.A m.n 5 (itc l)) :
  Calls Tryz.prog 41 #[m.val] w fun e w' => e = .returned (.bool true) ∧ Below w.heap.size w w' := by
 obtain ⟨k, frm, to_, id, no, A, n, c⟩ := m
 obtain ⟨⟨h1, h2⟩, h3, h4, h5, h6, h7, h8, h9⟩ := hg
 unfold Mq.val
 simp only at h1 h2 h3 h4 h5 h6 h7 h8 h9 hr ⊢
 have e1 : ((1 : Int) ≤ k) = True := eq_true h1
 have e2 : (k ≤ (10 : Int)) = True := eq_true h2
 have e5 : ((id : Int) ≤ (1099511627776 : Int)) = True := eq_true (by omega)
 have e6 : ((no : Int) ≤ (281474976710656 : Int)) = True := eq_true (by omega)
 have e7 : ((n : Int) ≤ (1500 : Int)) = True := eq_true (by omega)
 have hb1 := (Below.refl w.heap.size w).alloc (Nat.le_refl _) (.cells #[.int .i64 k, .int .i64 frm, .int .i64 to_, .int .u64 (id : Int), .int .u64 (no : Int), .slice A n c] 47)
 have hbx := BoxO.new w #[.int .i64 k, .int .i64 frm, .int .i64 to_, .int .u64 (id : Int), .int .u64 (no : Int), .slice A n c] 47
 have hal := iall_any A n c l _ (by omega) ((hr.below hb1).up hb1.size)
 rw [h8] at hal
 have HAL := Lib.hid hal
 have HN1 := Lib.hid (isnode_yes frm h3)
 have HN2 := Lib.hid (isnode_yes to_ h4)
 have HB := Lib.hid (And.intro hb1 hbx)
 have H9 := Lib.hid h9
 clear hal h1 h2 h3 h4 h5 h6 h7 h8 h9 hb1 hbx hr
 go_enter Tryz.func41, Tryz.ntmps41
 go_wp2_with fail
 refine (HN1.out _).mono ?_
 rintro e w1 ⟨rfl, rfl⟩
 go_wp2_with fail
 refine (HN2.out _).mono ?_
 rintro e w1 ⟨rfl, rfl⟩
 go_wp2_with fail
 with_reducible refine HAL.out.mono ?_
 rintro e w1 ⟨rfl, hb2⟩
 have hbz := later_ HB.out.1 hb2
 have hx2 := HB.out.2.below hb2
 have c0 := hx2.cell 0
 have c5 := hx2.cell 5
 simp only [gE0, gE1] at c0 c5
 clear hx2 HB HAL hb2
 by_cases hn : n = 0
 ·subst hn
  go_wp2
  go_ret
  exact ⟨rfl, hbz⟩
 ·have e0 : ((n : Int) == 0) = false := by simp; omega
  have HWI := Lib.hid (witems_yes k (H9.out.resolve_left hn))
  go_wp2_with fail
  refine (HWI.out _).mono ?_
  rintro e w2 ⟨rfl, rfl⟩
  go_wp2
  go_ret
  exact ⟨rfl, hbz⟩
theorem allow1_any (a : It) (f : Nat) (m : Mt) (b : Nat) (w : World) (hc : w.cell? ⟨b, 0, none⟩ = some (.int .u64 (m.floor : Int))) :
  Calls Tryz.prog 104 (#[a.val] ++ #[.pointer (some ⟨b, 0, none⟩)]) w fun e w' => e = .returned (.bool (decide (a.v ≤ m.floor))) ∧ Below w.heap.size w w' := by
 have hb0 := (Below.refl w.heap.size w).alloc (Nat.le_refl _) (.cells #[.int .i64 a.s, .int .i64 a.k, .int .u64 (a.t : Int), .int .u64 (a.v : Int), .int .i64 a.x] 27)
 have hc1 : ∀ o, (w.alloc o).cell? ⟨b, 0, none⟩ = some (.int .u64 (m.floor : Int)) := fun o => (World.cell?_alloc_lt w o _ (World.block_lt_of_cell? w _ hc)).trans hc
 unfold It.val
 go_enter Tryz.func104, Tryz.ntmps104
 go_wp2
 go_ret
 exact ⟨rfl, hb0⟩
theorem allow_any (m : Mt) (A : Option Addr) (n c : Nat) (l : List It) (w : World) (hn : n ≤ 1000000) (hr : Row w.heap.size w A n 5 (itc l)) :
  Calls Tryz.prog 43 #[m.val, .slice A n c] w fun e w' => e = .returned (.bool (!l.any fun a => decide (a.v ≤ m.floor))) ∧ Below w.heap.size w w' := by
 have hbV := (Below.refl w.heap.size w).alloc (Nat.le_refl _) (.cells #[.int .u64 (m.floor : Int), .int .u64 (m.cert : Int), .int .u64 (m.at_ : Int), .int .u64 (m.lease : Int)] 32)
 have hbx := BoxO.new w #[.int .u64 (m.floor : Int), .int .u64 (m.cert : Int), .int .u64 (m.at_ : Int), .int .u64 (m.lease : Int)] 32
 have ho := ihas_cap 104 (fun _ _ => rfl) #[.pointer (some ⟨w.heap.size, 0, none⟩)] (fun a => decide (a.v ≤ m.floor)) A n c l _ hn ((hr.below hbV).up hbV.size)
  (fun x w1 hw => allow1_any x 0 m w.heap.size w1 (by rw [(hbx.below hw).cell]; rfl))
 obtain ⟨b, hb⟩ : ∃ b, b = l.any fun a => decide (a.v ≤ m.floor) := ⟨_, rfl⟩
 rw [← hb] at ho ⊢
 have HO := Lib.hid ho
 unfold Mt.val
 clear ho hr hbx hb
 go_enter Tryz.func43, Tryz.ntmps43
 go_wp2_with fail
 with_reducible refine HO.out.mono ?_
 rintro e w1 ⟨rfl, h1⟩
 have H := Lib.hid (later_ hbV h1)
 clear h1 HO hbV
 go_wp2
 go_ret
 exact ⟨rfl, H.out⟩
theorem fseal_any (m : Mt) (f : Nat) (w : World) :
  Calls Tryz.prog 46 #[m.val, .int .u64 (f : Int)] w fun e w' => e = .returned (if f < m.floor ∨ f = 0 ∨ 281474976710656 < f then .tuple #[.agg #[.int .u64 0, .int .u64 0, .int .u64 0, .int .u64 0], .bool false] else .tuple #[Mt.val { m with floor := f }, .bool true]) ∧ Below w.heap.size w w' := by
 have hb2 : ∀ o1 o2, Below w.heap.size w ((w.alloc o1).alloc o2) := fun o1 o2 => ((Below.refl w.heap.size w).alloc (Nat.le_refl _) o1).alloc (by simp) o2
 unfold Mt.val
 simp only
 obtain ⟨fl, ce, a_, le⟩ := m
 simp only
 by_cases h1 : (f : Int) < (fl : Int)
 ·rw [if_pos (.inl (by omega))]
  have HB := Lib.hid hb2
  clear hb2
  go_enter Tryz.func46, Tryz.ntmps46
  go_wp2
  exact bodyPost_ret (v := .tuple #[.agg #[.int .u64 0, .int .u64 0, .int .u64 0, .int .u64 0], .bool false]) (by simp [results, go_sem]) rfl ⟨rfl, HB.out _ _⟩
 by_cases h2 : f = 0
 ·rw [if_pos (.inr (.inl h2))]
  subst h2
  have HB := Lib.hid hb2
  clear hb2
  go_enter Tryz.func46, Tryz.ntmps46
  go_wp2
  exact bodyPost_ret (v := .tuple #[.agg #[.int .u64 0, .int .u64 0, .int .u64 0, .int .u64 0], .bool false]) (by simp [results, go_sem]) rfl ⟨rfl, HB.out _ _⟩
 have e2 : ((f : Int) == 0) = false := by simp; omega
 by_cases h3 : (281474976710656 : Int) < (f : Int)
 ·rw [if_pos (.inr (.inr (by omega)))]
  have HB := Lib.hid hb2
  clear hb2
  go_enter Tryz.func46, Tryz.ntmps46
  go_wp2
  exact bodyPost_ret (v := .tuple #[.agg #[.int .u64 0, .int .u64 0, .int .u64 0, .int .u64 0], .bool false]) (by simp [results, go_sem]) rfl ⟨rfl, HB.out _ _⟩
 rw [if_neg (by omega)]
 have HB := Lib.hid hb2
 clear hb2
 go_enter Tryz.func46, Tryz.ntmps46
 go_wp2
 exact bodyPost_ret (v := .tuple #[.agg #[.int .u64 (f : Int), .int .u64 (ce : Int), .int .u64 (a_ : Int), .int .u64 (le : Int)], .bool true]) (by simp [results, go_sem]) rfl ⟨rfl, HB.out _ _⟩
end
section
open Go Go.RowKit Go.Lib Go.Shelf
variable {w w1 w2 : World} {X X1 X2 : Dw} {S S1 S2 : Sd} {Y Y1 Y2 : Yw} {V V1 V2 : Sv} {nb now grace : Nat} {ni : Int}
def Answ (w : World) (g : Nat) (k frm to_ : Int) (id no : Nat) (B : Option Addr) (n c : Nat) : Prop := BoxO w 47 g [.int .i64 k, .int .i64 frm, .int .i64 to_, .int .u64 (id : Int), .int .u64 (no : Int), .slice B n c]
theorem answer_any (gn gm nb : Nat) (mf ni k : Int) (mi no : Nat) (B : Option Addr) (n c : Nat) (w : World) (h1 : w.cell? ⟨gn, 0, none⟩ = some (.pointer (some ⟨nb, 0, none⟩))) (h2 : w.cell? ⟨nb, 0, none⟩ = some (.int .i64 ni)) (h3 : w.cell? ⟨gm, 1, none⟩ = some (.int .i64 mf)) (h4 : w.cell? ⟨gm, 3, none⟩ = some (.int .u64 (mi : Int))) :
  Calls Tryz.prog 42 #[.int .i64 k, .int .u64 (no : Int), .slice B n c, .pointer (some ⟨gn, 0, none⟩), .pointer (some ⟨gm, 0, none⟩)] w fun e w' => e = .returned (.slice (some ⟨w.heap.size, 0, none⟩) 1 1) ∧ Below w.heap.size w w' ∧ Answ w' w.heap.size k ni mf mi no B n c := by
 have hb0 := (Below.refl w.heap.size w).alloc (Nat.le_refl _) (.cells #[.int .i64 k, .int .i64 ni, .int .i64 mf, .int .u64 (mi : Int), .int .u64 (no : Int), .slice B n c] 47)
 have hb1 := (below_drew (Below.refl w.heap.size w)).alloc (Nat.le_refl _) (.cells #[.int .i64 k, .int .i64 ni, .int .i64 mf, .int .u64 (mi : Int), .int .u64 (no : Int), .slice B n c] 47)
 have hx1 := BoxO.new w.drew #[.int .i64 k, .int .i64 ni, .int .i64 mf, .int .u64 (mi : Int), .int .u64 (no : Int), .slice B n c] 47
 have HC := Lib.hid (fun W (hb : Below w.heap.size w W) => And.intro ((hb.cell (p := ⟨gn, 0, none⟩) (World.block_lt_of_cell? w _ h1)).trans h1) (And.intro ((hb.cell (p := ⟨nb, 0, none⟩) (World.block_lt_of_cell? w _ h2)).trans h2) (And.intro ((hb.cell (p := ⟨gm, 1, none⟩) (World.block_lt_of_cell? w _ h3)).trans h3) ((hb.cell (p := ⟨gm, 3, none⟩) (World.block_lt_of_cell? w _ h4)).trans h4))))
 have HB := Lib.hid (And.intro hb1 hx1)
 clear hb0 hb1 hx1
 go_enter Tryz.func42, Tryz.ntmps42
 go_wp2_with fail
 refine wp_region_held_drew (S := fun w' => Below w.heap.size w w') rfl (below_drew (Below.refl _ _)) (fun hSw => ?_)
 refine wpT (i := 0) (v := ?van0) ?han0 hSw ?kan0
 case han0 => (intro w hSw; (obtain ⟨k1, k2, k3, k4⟩ := HC.out _ hSw); go_simp; try (with_reducible rfl))
 go_simp
 refine wpT (i := 1) (v := ?van1) ?han1 hSw ?kan1
 case han1 => (intro w hSw; (obtain ⟨k1, k2, k3, k4⟩ := HC.out _ hSw); go_simp; try (with_reducible rfl))
 go_simp
 refine wpT (i := 2) (v := ?van2) ?han2 hSw ?kan2
 case han2 => (intro w hSw; (obtain ⟨k1, k2, k3, k4⟩ := HC.out _ hSw); go_simp; try (with_reducible rfl))
 go_simp
 refine wpT (i := 3) (v := ?van3) ?han3 hSw ?kan3
 case han3 => (intro w hSw; (obtain ⟨k1, k2, k3, k4⟩ := HC.out _ hSw); go_simp; try (with_reducible rfl))
 go_simp
 refine wpT (i := 4) (v := ?van4) ?han4 hSw ?kan4
 case han4 => (intro w hSw; (obtain ⟨k1, k2, k3, k4⟩ := HC.out _ hSw); go_simp; try (with_reducible rfl))
 go_simp
 refine wpT (i := 5) (v := ?van5) ?han5 hSw ?kan5
 case han5 => (intro w hSw; (obtain ⟨k1, k2, k3, k4⟩ := HC.out _ hSw); go_simp; try (with_reducible rfl))
 go_simp
 refine wpT (i := 6) (v := ?van6) ?han6 hSw ?kan6
 case han6 => (intro w hSw; (obtain ⟨k1, k2, k3, k4⟩ := HC.out _ hSw); go_simp; try (with_reducible rfl))
 go_simp
 refine wpT (i := 7) (v := ?van7) ?han7 hSw ?kan7
 case han7 => (intro w hSw; (obtain ⟨k1, k2, k3, k4⟩ := HC.out _ hSw); go_simp; try (with_reducible rfl))
 go_simp
 refine wpT (i := 8) (v := ?van8) ?han8 hSw ?kan8
 case han8 => (intro w hSw; (obtain ⟨k1, k2, k3, k4⟩ := HC.out _ hSw); go_simp; try (with_reducible rfl))
 go_simp
 refine wpT (i := 9) (v := ?van9) ?han9 hSw ?kan9
 case han9 => (intro w hSw; (obtain ⟨k1, k2, k3, k4⟩ := HC.out _ hSw); go_simp; try (with_reducible rfl))
 go_simp
 refine wpT (i := 10) (v := ?van10) ?han10 hSw ?kan10
 case han10 => (intro w hSw; (obtain ⟨k1, k2, k3, k4⟩ := HC.out _ hSw); go_simp; try (with_reducible rfl))
 go_simp
 refine wpT (i := 11) (v := ?van11) ?han11 hSw ?kan11
 case han11 => (intro w hSw; (obtain ⟨k1, k2, k3, k4⟩ := HC.out _ hSw); go_simp; try (with_reducible rfl))
 go_simp
 refine wpAnyH_ready (rs := [12]) (by kernel_rfl) (by simp) ?_
 refine AllReadyH.cons rfl (fun K hK => ?_) AllReadyH.nil
 skip
 go_simp
 refine hK.out _ _ (hSw.alloc hSw.size _) (fun hSn => ?_)
 clear hK K hSw
 have hSw := hSn
 clear hSn
 go_simp
 refine wpT (i := 13) (v := ?van13) ?han13 hSw ?kan13
 case han13 => (intro w hSw; (obtain ⟨k1, k2, k3, k4⟩ := HC.out _ hSw); go_simp; try (with_reducible rfl))
 go_simp
 refine wpAnyH_done (by kernel_rfl) ?_ _
 clear hSw HC
 go_wp2
 go_ret
 exact ⟨rfl, HB.out.1, HB.out.2⟩
end
section
open Go Go.RowKit Go.Lib Go.Shelf
variable {w w1 w2 : World} {X X1 X2 : Dw} {S S1 S2 : Sd} {Y Y1 Y2 : Yw} {V V1 V2 : Sv} {nb now grace : Nat} {ni : Int}
def HPost (X : Dw) (Y : Yw) (w : World) (S1 : Sd) (V1 : Sv) (nb : Nat) (ni : Int) (now grace : Nat) (mf : Int) (mi : Nat) (ans : Option (Int × Nat × List It)) (e : Ending) (w' : World) : Prop := ∃ X1 Y1, X1.d = X.d ∧ Y1.s = Y.s ∧ NdAt w' X1 S1 Y1 V1 nb ni now grace ∧ Chg (XY X Y) w w' ∧ (∀ g ∈ XY X1 Y1, g ∈ XY X Y ∨ w.heap.size ≤ g) ∧ NewA w Y Y1 ∧
 match ans with
 | none => e = .returned (.slice none 0 0)
 | some (k, no, L) => ∃ g B n c, e = .returned (.slice (some ⟨g, 0, none⟩) 1 1) ∧ Answ w' g k ni mf mi no B n c ∧ w.heap.size ≤ g ∧ Row w'.heap.size w' B n 5 (itc L) ∧ (∀ a, B = some a → w.heap.size ≤ a.block) ∧ g ∉ XY X1 Y1 ∧ ∀ a, B = some a → a.block ∉ XY X1 Y1
theorem NdUpd.told {W : World} {k : Int} {mf : Int} {mi nn : Nat} {B : Option Addr} {n c : Nat} {L : List It} {e : Ending} (hk : NdUpd X Y W w1 S1 V1 nb ni now grace) (hb : Below w.heap.size w W) (hr : Row w1.heap.size w1 B n 5 (itc L)) (hl : ∀ a, B = some a → w.heap.size ≤ a.block ∧ ∀ X1 Y1, NdAt w1 X1 S1 Y1 V1 nb ni now grace → (∀ g ∈ XY X1 Y1, g ∈ XY X Y ∨ W.heap.size ≤ g) → a.block ∉ XY X1 Y1)
  (he : e = .returned (.slice (some ⟨w1.heap.size, 0, none⟩) 1 1)) (hb2 : Below w1.heap.size w1 w2) (ha : Answ w2 w1.heap.size k ni mf mi nn B n c) : HPost X Y w S1 V1 nb ni now grace mf mi (some (k, nn, L)) e w2 := by
 obtain ⟨X1, Y1, e1, es, h1, cc, f, na⟩ := hk
 have hs := cc.size
 have hs2 := hb.size
 refine ⟨X1, Y1, e1, es, h1.below hb2, ((Chg.of_below hb _).trans cc (fun g hg => .inl hg)).trans (Chg.of_below hb2 (XY X Y)) (fun g hg => .inl hg), fun g hg => (f g hg).imp (fun z => z) (Nat.le_trans hb.size), na.imp (fun z => z) (fun z a ha => Nat.le_trans hb.size (z a ha)), w1.heap.size, B, n, c, he, ha, by omega, (hr.below hb2).up hb2.size, fun a ha => (hl a ha).1, fun hm => ?_, fun a ha => (hl a ha).2 X1 Y1 h1 f⟩
 have := h1.at_.lt _ hm
 omega
theorem NdUpd.mute {W : World} {mf : Int} {mi : Nat} (hk : NdUpd X Y W w1 S1 V1 nb ni now grace) (hb : Below w.heap.size w W) : HPost X Y w S1 V1 nb ni now grace mf mi none (.returned (.slice none 0 0)) w1 := by
 obtain ⟨X1, Y1, e1, es, h1, cc, f, na⟩ := hk
 exact ⟨X1, Y1, e1, es, h1, (Chg.of_below hb _).trans cc (fun g hg => .inl hg), fun g hg => (f g hg).imp (fun z => z) (Nat.le_trans hb.size), na.imp (fun z => z) (fun z a ha => Nat.le_trans hb.size (z a ha)), rfl⟩
def St.put (S : Sd) (V : Sv) (l : List It) : Sd × Sv × Option (Int × Nat × List It) :=
 if (l.any fun a => decide (a.v ≤ V.M.v.floor)) = true then (S, V, some (3, V.M.v.floor, [])) else
 if (St.last S V l).2.2 = true then ((St.last S V l).1, (St.last S V l).2.1, some (2, 0, [])) else ((St.last S V l).1, (St.last S V l).2.1, none)
end
end Go.Proofs.YtdkjoigpahafmaaGreatDoor
