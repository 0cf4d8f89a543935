/- Texts ChunkB, BlockA, BloomA in one. No conditions. -/
import Derived.Test.YtpdaolongmgmgaaGreatDoorBunAM
import Derived.Test.YtpdaolongmgmgaaGreatDoorBunAL
import Derived.Maps.AppendAt
import Derived.Maps.OwnIn
import Derived.Test.YtpdaolongmgmgaaGreatDoorBunAK
import Derived.Test.YtpdaolongmgmgaaGreatDoorBunAD
import Derived.Test.YtpdaolongmgmgaaGreatDoorBunAE
import Derived.Test.YtpdaolongmgmgaaGreatDoorBunAJ
import Derived.Deep.RegionHeld3

namespace Go.Proofs.YtpdaolongmgmgaaGreatDoor
open Go Go.RowKit Go.Lib Go.Shelf
attribute [local go_sem] Oper.semAt_some
theorem info_row : (Tryz.prog.info? 38).map (fun i => (i.zero, i.size, i.bytes)) = some (some (.slice none 0 0), 1, 24) := by kernel_rfl
set_option maxRecDepth 100000 in
set_option maxHeartbeats 1000000 in
theorem iclone_any (p : Addr) (n c : Nat) (l : List It) (w : World) (h0 : 0 < n) (hn : n ≤ 1000000) (hr : Row w.heap.size w (some p) n 5 (itc l)) :
  Calls Tryz.prog 303 #[.slice (some p) n c] w fun e w' => ∃ A' c', e = .returned (.slice A' n c') ∧ w'.ownsRow w.heap.size 41 5 (.slice A' n c') n (itc l) ∧ n ≤ c' ∧ c' ≤ maxLen ∧ Below w.heap.size w w' := by
 obtain ⟨i0, hi0, hz0, hz1, hz2⟩ := info_parts info_item
 have HR := Lib.hid hr
 clear hr
 go_enter Tryz.func303, Tryz.ntmps303
 have ho0 : (w.alloc (.cells #[] 41)).ownsRow w.heap.size 41 5 (.slice (some ⟨w.heap.size, 0, none⟩) 0 0) 0 [] := ⟨rfl, .inr ⟨w.heap.size, 0, #[], rfl, Nat.le_refl _, heap_alloc_new w _, Nat.le_refl _, by decide, rfl, rfl⟩⟩
 have hb0 := (Below.refl w.heap.size w).alloc (Nat.le_refl _) (.cells #[] 41)
 have HO := Lib.hid ho0
 have HB := Lib.hid hb0
 have HR2 := Lib.hid (HR.out.below hb0)
 clear ho0 hb0
 have hnil : ∀ W, (binOp .eql 38 (.slice (some p) n c) (.slice none 0 0)).run Tryz.prog W = .ok (.bool false) W := fun W => Lib.run_eql_slice_some_nil (e := 41) W _ _ _ (by kernel_rfl)
 go_wp2_with (at_builtin; refine stop_in ?_)
 refine stop_out (wpList_app rfl (.tmp 5) (.tmp 6) _ rfl w.heap.size 41 i0 _ 5 40 Tryz.underlying38 hi0 hz0 hz1 hz2 rfl (by omega) w HB.out HB.out.size _ 0 [] rfl HO.out w.heap.size _ n c (itc l) rfl HR2.out (itc_one l) n _ (Nat.zero_add n) (List.nil_append _) (by unfold maxLen; omega) (by omega) ?_)
 intro A3 c3 w3 z1 z2 z3 z4 z5
 have HF := Lib.hid z1
 clear z1 z3 HO HB HR2
 go_wp2
 go_ret
 exact ⟨A3, c3, rfl, HF.out, z4, z5, z2⟩
def Kp3 (n₀ a b : Nat) (W W' : World) : Prop := Below n₀ W W' ∧ W'.heap[a]? = W.heap[a]? ∧ W'.heap[b]? = W.heap[b]?
theorem Kp3.trans {n₀ a b : Nat} {A B C : World} (h : Kp3 n₀ a b A B) (k : Kp3 n₀ a b B C) : Kp3 n₀ a b A C := ⟨h.1.trans k.1, k.2.1.trans h.2.1, k.2.2.trans h.2.2⟩
theorem Kp3.cell {n₀ a b : Nat} (W W' : World) (h : Kp3 n₀ a b W W') : W'.cell? ⟨a, 0, none⟩ = W.cell? ⟨a, 0, none⟩ ∧ W'.cell? ⟨b, 0, none⟩ = W.cell? ⟨b, 0, none⟩ := ⟨World.cell?_of_block h.2.1, World.cell?_of_block h.2.2⟩
theorem own_ne {W : World} {base : Nat} {e : TypeId} {size n : Nat} {v : Value} {xs : List Value} (h : W.ownsRow base e size v n xs) {row : Option Nat} (hr : ∀ r, row = some r → ∀ cs fr, W.heap[r]? ≠ some (.cells cs e fr)) : v.ownBlock = none ∨ v.ownBlock ≠ row := by
 rcases h.2 with ⟨rfl, _⟩ | ⟨g, cap, cur, rfl, hb, hgb, _⟩
 ·exact .inl rfl
 ·exact .inr fun e' => hr g (by simpa [Value.ownBlock] using e'.symm) _ _ hgb
def Cuts {m len : Nat} (n₀ : Nat) (W : World) (L : List It) (v : Value) (pre : List (Ck m len)) : Prop := ∃ vs, W.ownsRow n₀ 38 1 v pre.length vs ∧ ∀ i (h : i < pre.length), ∃ A k c, vs[i]? = some (.slice A k c) ∧ k ≤ c ∧ c ≤ maxLen ∧ W.ownsRow n₀ 41 5 (.slice A k c) k (itc (Ck.of L pre[i]))
theorem Cuts.kept {m len n₀ : Nat} {W W' : World} {L : List It} {v : Value} {pre : List (Ck m len)} (h : Cuts n₀ W L v pre) {row : Option Nat} (hg : W.grownBy W' row) (hr : ∀ r, row = some r → ∀ cs fr, W.heap[r]? ≠ some (.cells cs 38 fr) ∧ W.heap[r]? ≠ some (.cells cs 41 fr)) : Cuts n₀ W' L v pre := by
 obtain ⟨vs, h1, h2⟩ := h
 refine ⟨vs, h1.kept hg (own_ne h1 fun r e cs fr => (hr r e cs fr).1), fun i hi => ?_⟩
 obtain ⟨A, k, c, z1, z2, z3, z4⟩ := h2 i hi
 exact ⟨A, k, c, z1, z2, z3, z4.kept hg (own_ne z4 fun r e cs fr => (hr r e cs fr).2)⟩
theorem Cuts.more {m len n₀ : Nat} {W W' : World} {L : List It} {v v' : Value} {vs : List Value} {pre : List (Ck m len)} {x : Ck m len} {A : Option Addr} {k c : Nat} (h : ∀ i (h : i < pre.length), ∃ A k c, vs[i]? = some (.slice A k c) ∧ k ≤ c ∧ c ≤ maxLen ∧ W.ownsRow n₀ 41 5 (.slice A k c) k (itc (Ck.of L pre[i]))) (hl : vs.length = pre.length) (hg : W.grownBy W' v.ownBlock) (hv : W.ownsRow n₀ 38 1 v pre.length vs)
  (hk : k ≤ c) (hc : c ≤ maxLen) (ho : W.ownsRow n₀ 41 5 (.slice A k c) k (itc (Ck.of L x))) (hv' : W'.ownsRow n₀ 38 1 v' (pre.length + 1) (vs ++ [.slice A k c])) : Cuts n₀ W' L v' (pre ++ [x]) := by
 have hne : ∀ r, v.ownBlock = some r → ∀ cs fr, W.heap[r]? ≠ some (.cells cs 41 fr) := by
  intro r hr cs fr e
  rcases hv.2 with ⟨rfl, _⟩ | ⟨g, cap, cur, rfl, hb, hgb, _⟩
  ·simp [Value.ownBlock] at hr
  ·obtain rfl : g = r := by simpa [Value.ownBlock] using hr
   rw [hgb] at e
   injection e with e
   injection e with _ e
   exact absurd e (by decide)
 refine ⟨vs ++ [.slice A k c], by rw [List.length_append]; exact hv', fun i hi => ?_⟩
 rw [List.length_append] at hi
 rcases Nat.lt_or_ge i pre.length with h1 | h1
 ·obtain ⟨A, k, c, z1, z2, z3, z4⟩ := h i h1
  refine ⟨A, k, c, by rw [List.getElem?_append_left (by omega)]; exact z1, z2, z3, ?_⟩
  rw [List.getElem_append_left h1]
  exact z4.kept hg (own_ne z4 hne)
 ·have h2 : i = pre.length := by simp at hi; omega
  subst h2
  refine ⟨A, k, c, by rw [← hl]; simp, hk, hc, ?_⟩
  rw [List.getElem_append_right (Nat.le_refl _)]
  simp only [Nat.sub_self, List.getElem_cons_zero]
  exact ho.kept hg (own_ne ho hne)
theorem Cuts.rows {m len n₀ : Nat} {W : World} {L : List It} {A : Option Addr} {n c : Nat} {pre : List (Ck m len)} (h : Cuts n₀ W L (.slice A n c) pre) : n = pre.length ∧ IRows W.heap.size W A n (pre.map (Ck.of L)) := by
 obtain ⟨vs, h1, h2⟩ := h
 have hn : n = pre.length := by
  rcases h1.2 with ⟨e, e2⟩ | ⟨g, cap, cur, e, _⟩
  ·injection e with _ e _
   omega
  ·injection e
 subst hn
 refine ⟨rfl, vs, Row.own h1, by simp, fun i hi => ?_⟩
 rw [List.length_map] at hi
 obtain ⟨A, k, c, z1, z2, z3, z4⟩ := h2 i hi
 exact ⟨A, k, c, z1, z2, z3, by rw [List.getElem_map]; exact Row.own z4⟩
theorem step_appI {P : Program} {F : Fence} {nF : Nat} {ops : Array Oper} {o : Oper} {a : Act} {w : World} {K : Act → World → Prop} {Q : Exit → Act → World → Prop} {E : Prop} (hgd : o.guard = none) (s x : Operand) (t : TypeId)
  (ho : o.op = .call { callee := .builtin .append, args := #[s, x], argTypes := #[t, t] })
  (base : Nat) (e : TypeId) (i : TypeInfo) (z : Value) (size bytes : Nat) (ht : P.underlying t = some (.slice e)) (hi : P.info? e = some i) (hz : i.zero = some z)
  (hsize : i.size = size) (hby : i.bytes = bytes) (hzs : z.cells.size = size) (hsz : 0 < size) (hbase : base ≤ w.heap.size) (v : Value) (n : Nat) (xs : List Value) (hs : a.eval s = v) (hown : w.ownsRow base e size v n xs)
  (B : Nat) (A : Option Addr) (m c : Nat) (news : List Value) (hx : a.eval x = .slice A m c) (hr : Row B w A m size news) (h1 : ∀ u ∈ news, u.oneCell' = true)
  (N : Nat) (X : List Value) (hN : n + m = N) (hX : xs ++ news = X) (h63 : N ≤ maxLen) (hbytes : N * bytes ≤ 140737488355328)
  (h : ∀ A' c' w', w'.ownsRow base e size (.slice A' N c') N X → w.grownBy w' v.ownBlock → N ≤ c' → c' ≤ maxLen → ((Value.slice A' N c').ownBlock = v.ownBlock ∨ (Value.slice A' N c').ownBlock = some w.heap.size) → K (a.put o.dst (.slice A' N c')) w') :
  if Region.wanted o (yielded ops a.tmps) = true then Oper.wpIn F nF P o a w K Q else E := by
 have hw : Region.wanted o (yielded ops a.tmps) = true := by simp [Region.wanted, hgd]
 rw [if_pos hw]
 subst hN
 subst hX
 obtain ⟨A', c', w', hrun, h3, h4, h5, h7, h6⟩ := run_appG (P := P) w base t o.type e i z size bytes ht hi hz hsize hby hzs hsz v n xs hown B A m c news hr h1 h63 hbytes hbase
 unfold Oper.wpIn
 refine ⟨by simp [Oper.about, ho, resolve, Target.leads, Sem.run_pure], ?_⟩
 rw [Oper.semAt_plain F _ _ (by rw [ho]; intro c hc'; cases hc')]
 simp [execOp, ho, resolve, invoke, builtin, hs, hx, hrun, Result.andThen]
 exact h _ _ _ h3 h4 h5 h7 h6
theorem itc_min (L : List It) (k m : Nat) {len : Nat} (hL : L.length = len) : ((itc L).drop (k * 5)).take (m * 5) = ((itc L).drop (k * 5)).take (min m (len - k) * 5) := by
 rcases Nat.le_total m (len - k) with h | h
 ·rw [Nat.min_eq_left h]
 ·rw [Nat.min_eq_right h, List.take_of_length_le (by rw [List.length_drop, itc_length]; omega), List.take_of_length_le (by rw [List.length_drop, itc_length]; omega)]
theorem bcut_round {m len : Nat} {w W w1 w3 : World} {L : List It} {v : Value} {A1 A3 : Option Addr} {c1 c3 : Nat} {vs : List Value} {pre : List (Ck m len)} {x : Ck m len} (o : Obj)
  (h1 : w3.ownsRow (w.heap.size + 3) 38 1 (.slice A3 (pre.length + 1) c3) (pre.length + 1) (vs ++ [.slice A1 x.len c1])) (hg : (w1.alloc o).grownBy w3 v.ownBlock) (hb : Below W.heap.size W w1)
  (ho : w1.ownsRow W.heap.size 41 5 (.slice A1 x.len c1) x.len (itc (Ck.of L x))) (hc : x.len ≤ c1 ∧ c1 ≤ maxLen)
  (hX : Boxed w3 w.heap.size 53 v ∧ Boxed (w3.setCell ⟨w.heap.size, 0, none⟩ (.slice A3 (pre.length + 1) c3)) w.heap.size 53 (.slice A3 (pre.length + 1) c3) ∧ KeepsOthers w1 (w3.setCell ⟨w.heap.size, 0, none⟩ (.slice A3 (pre.length + 1) c3)) ∧ Below w.heap.size w1 (w3.setCell ⟨w.heap.size, 0, none⟩ (.slice A3 (pre.length + 1) c3)))
  (hel : ∀ i (h : i < pre.length), ∃ A k c, vs[i]? = some (.slice A k c) ∧ k ≤ c ∧ c ≤ maxLen ∧ W.ownsRow (w.heap.size + 3) 41 5 (.slice A k c) k (itc (Ck.of L pre[i]))) (hown : W.ownsRow (w.heap.size + 3) 38 1 v pre.length vs) (hsz : w.heap.size + 3 ≤ W.heap.size) (hB : Below w.heap.size w W) :
  KeepsOthers W (w3.setCell ⟨w.heap.size, 0, none⟩ (.slice A3 (pre.length + 1) c3)) ∧ Kp3 w.heap.size (w.heap.size + 1) (w.heap.size + 1 + 1) W (w3.setCell ⟨w.heap.size, 0, none⟩ (.slice A3 (pre.length + 1) c3)) ∧
   ((w.heap.size + 3 ≤ (w3.setCell ⟨w.heap.size, 0, none⟩ (.slice A3 (pre.length + 1) c3)).heap.size ∧ ∃ v', Boxed (w3.setCell ⟨w.heap.size, 0, none⟩ (.slice A3 (pre.length + 1) c3)) w.heap.size 53 v' ∧ Cuts (w.heap.size + 3) (w3.setCell ⟨w.heap.size, 0, none⟩ (.slice A3 (pre.length + 1) c3)) L v' (pre ++ [x])) ∧ Below w.heap.size w (w3.setCell ⟨w.heap.size, 0, none⟩ (.slice A3 (pre.length + 1) c3))) := by
 obtain ⟨x1, x2, x3, x4⟩ := hX
 have hbW := hb.mono (show w.heap.size ≤ W.heap.size by omega)
 have hg1 : W.grownBy w1 none := ⟨hb.os, hb.tape, hb.output, hb.size, fun k hk _ => hb.block k hk⟩
 have hk1 : KeepsOthers W w1 := KeepsOthers.of_grownBy hg1 (fun j o ej => by cases ej)
 have hown1 := (own_below hown hb).alloc o
 have hvb : ∀ k, v.ownBlock = some k → w.heap.size + 3 ≤ k := by
  intro k hk
  rcases hown.2 with ⟨rfl, _⟩ | ⟨g, cap, cur, rfl, hb, hgb, _⟩
  ·simp [Value.ownBlock] at hk
  ·obtain rfl : g = k := by simpa [Value.ownBlock] using hk
   exact hb
 have hsame : ∀ k, k < w.heap.size + 3 → k ≠ w.heap.size → (w3.setCell ⟨w.heap.size, 0, none⟩ (.slice A3 (pre.length + 1) c3)).heap[k]? = W.heap[k]? := by
  intro k hk hk2
  rw [Below.heap_setCell _ _ _ k (fun e => hk2 e), hg.block k (by rw [World.size_alloc]; have := hb.size; omega) (fun e => by have := hvb k e.symm; omega), Below.heap_alloc _ _ k (by have := hb.size; omega), hb.block k (by omega)]
 refine ⟨hk1.trans x3, ⟨hbW.trans x4, hsame _ (by omega) (by omega), hsame _ (by omega) (by omega)⟩, ⟨?_, _, x2, ?_⟩, (hB.trans hbW).trans x4⟩
 ·have h2 := x4.size
  have := hb.size
  omega
 ·have hcm : Cuts (w.heap.size + 3) w3 L (.slice A3 (pre.length + 1) c3) (pre ++ [x]) := by
   refine Cuts.more (W := w1.alloc o) (v := v) (fun i hi => ?_) (by have := hown.1; omega) hg hown1 hc.1 hc.2 (own_base (ho.alloc o) hsz) h1
   obtain ⟨A, k, c, z1, z2, z3, z4⟩ := hel i hi
   exact ⟨A, k, c, z1, z2, z3, (own_below z4 hb).alloc o⟩
  refine hcm.kept (grownBy_setCell' _ _ _) (fun r e cs fr => ?_)
  cases e
  constructor <;> (intro e2; rw [show w3.heap[w.heap.size]? = _ from x1] at e2; injection e2 with e2; injection e2 with _ e2; exact absurd e2 (by decide))
set_option maxRecDepth 100000 in
set_option maxHeartbeats 4000000 in
theorem bcut_any (A : Option Addr) (len c : Nat) (L : List It) (w : World) (hlen : len ≤ 2000) (hlc : len ≤ c) (hr : Row w.heap.size w A len 5 (itc L)) :
  Calls Tryz.prog 254 #[.slice A len c, .int .i64 20] w fun e w' => ∃ A' k c', e = .returned (.slice A' k c') ∧ k ≤ c' ∧ c' ≤ maxLen ∧ IRows w'.heap.size w' A' k (Tb.cut 20 len L) ∧ Below w.heap.size w w' := by
 obtain ⟨i0, hi0, hz0, hz1, hz2⟩ := info_parts info_row
 have hLl := hr.itlen
 have hm1 : max (20 : Int) 1 = 20 := by decide
 have hm2 : min (20 : Int) 100 = 20 := by decide
 obtain ⟨p, hp⟩ : ∃ p, 0 < len → A = some p := by
  cases A with
  | none =>
   refine ⟨⟨0, 0, none⟩, fun h => ?_⟩
   obtain ⟨a, _, e, _⟩ := hr.it h
   cases e
  | some p => exact ⟨p, fun _ => rfl⟩
 have HR := Lib.hid hr
 have HP := Lib.hid hp
 clear hr hp
 refine (callsIn_wide (n := 6)).1 ?_
 refine callsIn_of_wp_marks Tryz.func254 rfl trivial ?_ rfl
 simp only [Tryz.ntmps254, List.size_toArray, List.length_cons, List.length_nil, Nat.reduceAdd, Nat.reduceSub, Array.replicate_succ, Array.replicate_zero, List.push_toArray, List.append_toArray, List.nil_append, List.cons_append]
 gi_wp2_with (refine ⟨trivial, ?_⟩; gi_at_call 167; refine (chunk_in Fence.wide 5 trivial rfl A len c 20 (by omega) _).mono ?_; rintro e w' ⟨rfl, rfl⟩)
 have bO := Boxed.new w 53 (.slice none 0 0)
 have bS := Boxed.new (w.alloc (.cells #[.slice none 0 0] 53)) 38 (.slice A len c)
 have bM := Boxed.new ((w.alloc (.cells #[.slice none 0 0] 53)).alloc (.cells #[.slice A len c] 38)) 3 (.int .i64 ((20 : Nat) : Int))
 rw [World.size_alloc] at bS
 rw [World.size_alloc, World.size_alloc] at bM
 have hB0 : Below w.heap.size w (((w.alloc (.cells #[.slice none 0 0] 53)).alloc (.cells #[.slice A len c] 38)).alloc (.cells #[.int .i64 ((20 : Nat) : Int)] 3)) := (((Below.refl _ w).alloc (Nat.le_refl _) _).alloc (by simp) _).alloc (by simp; omega) _
 have hst := chunk_stops Fence.wide 5 trivial rfl (by omega) (w.heap.size + 1) (w.heap.size + 1 + 1) (Kp3 w.heap.size (w.heap.size + 1) (w.heap.size + 1 + 1)) Kp3.cell p A len c 20 HP.out L hLl (by omega) (by omega) (by omega) hlc _ (by simp) (by simp) (bS.alloc _).cell bM.cell
 refine wpIn_rangeFunc_ownF (α := Ck 20 len) (n := 6) (encs := fun x => #[Ck.val p x]) rfl (by omega) (gf := 232) (lb := #[.pointer (some ⟨w.heap.size + 1, 0, none⟩), .pointer (some ⟨w.heap.size + 1 + 1, 0, none⟩)]) rfl trivial (enters_of Tryz.func232 (by kernel_rfl) rfl) hst Kp3.trans ?hKb (Below.refl _ _) (fun _ => rfl)
  (fun pre W => (w.heap.size + 3 ≤ W.heap.size ∧ ∃ v, Boxed W w.heap.size 53 v ∧ Cuts (w.heap.size + 3) W L v pre) ∧ Below w.heap.size w W)
  (fun _ _ _ => False) ?hI (fun _ _ _ _ _ hs _ _ => hs) ⟨⟨by simp, _, (bO.alloc _).alloc _, [], World.ownsRow_nil _ _ _ _, fun i hi => absurd hi (by simp)⟩, hB0⟩
  (fun x => { tmps := #[.slice A len c, .int .i64 20, undef, undef, .slice none 0 0, .pointer (some ⟨w.heap.size, 0, none⟩), Ck.val p x, .slice A len c, .int .i64 20, .int .i64 20, .int .i64 20, .func (.func 232) #[] #[.pointer (some ⟨w.heap.size + 1, 0, none⟩), .pointer (some ⟨w.heap.size + 1 + 1, 0, none⟩)], Ck.val p x, undef, undef, undef, undef, undef, undef], defers := [] }) ?assign ?body ?done ?stop
 case hKb =>
  intro W l o o' hl ho h1 h2
  refine ⟨belowK_b (by simp; omega) W l o o' hl ho h1 h2, World.putObj_heap_other (fun e => ?_), World.putObj_heap_other (fun e => ?_)⟩
  ·simp at hl; omega
  ·simp at hl; omega
 case hI =>
  refine OwnFrom.and (fun pre W W' row hs hg hr => ?_) (ownFrom_below (Nat.le_refl _) (by simp; omega))
  obtain ⟨h0, v, h1, h2⟩ := hs
  have hr' : ∀ r, row = some r → ∃ o : Obj, W.heap[r]? = some o ∧ o.isCells = false := fun r e => (hr r e).2
  refine ⟨Nat.le_trans h0 hg.size, v, h1.kept hg (fun e' => ?_), h2.kept hg fun r e cs fr => ?_⟩
  ·obtain ⟨o, ho, hc⟩ := hr' _ e'.symm
   rw [show W.heap[w.heap.size]? = _ from h1] at ho
   cases ho
   cases hc
  ·obtain ⟨o, ho, hc⟩ := hr' r e
   constructor <;> (intro e2; rw [ho] at e2; cases e2; cases hc)
 case assign =>
  intro l x W K hK
  gi_wp2
  exact hK
 case body =>
  rintro l pre x W ⟨⟨hsz, v, hv, vs, hown, hel⟩, hB⟩ hlt
  have hc := hv.cell
  have hx := x.2
  have hx1 : 0 < x.len := by unfold Ck.len; omega
  have hx2 : x.len ≤ 20 := by unfold Ck.len; omega
  have hx3 : x.1 * 20 + x.len ≤ len := by unfold Ck.len; omega
  have hA : A = some p := HP.out (by omega)
  have hrow : Row W.heap.size W.drew (some (p.add (x.1 * 20 * 5))) x.len 5 (itc (Ck.of L x)) := by
   have h1 := ((HR.out.below hB).up hB.size).drew
   have h2 := h1.cut (k := x.1 * 20) (m := x.1 * 20 + x.len) (A' := some (p.add (x.1 * 20 * 5))) (by omega) (by omega) (fun _ => by rw [hA]; rfl)
   rw [show x.1 * 20 + x.len - x.1 * 20 = x.len from by omega] at h2
   rw [show itc (Ck.of L x) = ((itc L).drop (x.1 * 20 * 5)).take (x.len * 5) from by unfold Ck.of; rw [itc_take, itc_drop]; exact itc_min L (x.1 * 20) 20 hLl]
   exact h2
  have HROW := Lib.hid hrow
  have HEL := Lib.hid hel
  have HOWN := Lib.hid hown
  have HV := Lib.hid hv
  have HBW := Lib.hid hB
  clear hrow hel hown hv hA hx hx3 hst bO bS bM hB0
  gi_wp2
  refine wpIn_region_any (by kernel_rfl) ?_
  change wpAnyIn _ _ _ _ _ _ _ _ _ (World.drew _)
  refine wpAnyIn_ready (rs := [0, 1]) (by kernel_rfl) (by simp) ?_
  refine AllReadyIn.cons rfl (fun K hK => ?_) ?_
  ·go_simp
   refine hK _ _ ?_
   clear hK K
   refine wpAnyIn_ready (rs := [1]) (by kernel_rfl) (by simp) ?_
   refine AllReadyIn.cons rfl (fun K hK => ?_) ?_
   ·go_simp
    refine hK _ _ ?_
    clear hK K
    refine wpAnyIn_ready (rs := [2]) (by kernel_rfl) (by simp) ?_
    refine AllReadyIn.cons rfl (fun K hK => ?_) ?_
    ·go_simp
     gi_wp2_with (refine ⟨trivial, ?_⟩; gi_at_call 303; refine (CallsIn.inRound l (callsIn_wide.2 (iclone_any _ x.len _ (Ck.of L x) _ (by omega) (by omega) HROW.out))).mono ?_; rintro e w1 ⟨A1, c1, rfl, ho1, hc1, hc2, hb1⟩)
     have HO1 := Lib.hid (ho1 : w1.ownsRow W.heap.size 41 5 (.slice A1 x.len c1) x.len (itc (Ck.of L x)))
     have HB1 := Lib.hid (((Below.refl W.heap.size W).drew).trans hb1)
     have hcc := (HB1.out.cell (p := ⟨w.heap.size, 0, none⟩) HV.out.lt).trans hc
     have hca := (World.cell?_alloc_lt w1 (.cells #[.slice A1 x.len c1] 38) ⟨w.heap.size, 0, none⟩ (by have := HB1.out.size; have : w1.drew.heap.size = w1.heap.size := rfl; simp; omega)).trans hcc
     have HC1 := Lib.hid (And.intro hc1 hc2)
     clear ho1 hb1 hc1 hc2
     refine wpAnyIn_ready (rs := [3]) (by kernel_rfl) (by simp) ?_
     refine AllReadyIn.cons rfl (fun K hK => ?_) ?_
     ·go_simp
      refine hK _ _ ?_
      clear hK K
      refine wpAnyIn_ready (rs := [4]) (by kernel_rfl) (by simp) ?_
      refine AllReadyIn.cons rfl (fun K hK => ?_) ?_
      ·refine step_appI rfl (.tmp 13) (.tmp 16) _ rfl (w.heap.size + 3) 38 i0 _ 1 24 Tryz.underlying53 hi0 hz0 hz1 hz2 rfl (by omega) (by have := HB1.out.size; rw [World.size_alloc]; omega) v pre.length vs rfl ((own_below HOWN.out HB1.out).alloc _) _ (some ⟨w1.heap.size, 0, none⟩) 1 1 [.slice A1 x.len c1] rfl (Row.new w1 #[.slice A1 x.len c1] 38 rfl) (by simp [Value.oneCell']) (pre.length + 1) _ rfl rfl (by unfold maxLen; omega) (by omega) ?_
       intro A3 c3 w3 hown3 hg3 _ _ _
       have HW := Lib.hid (And.intro hown3 hg3)
       clear hown3 hg3
       have hv1 : Boxed w1 w.heap.size 53 v := (HB1.out.block _ HV.out.lt).trans HV.out
       obtain ⟨hx1, hx2, hx3, hx4, hx5⟩ := hv1.appended (by decide) (own_base (own_below HOWN.out HB1.out) (Nat.le_add_right _ 3)) (by have := HB1.out.size; omega) (Nat.le_refl _) (own_base HW.out.1 (Nat.le_add_right _ 3)) HW.out.2
       have hcc3 := hx1.cell
       have hcf3 := hx1.frozen
       have HX := Lib.hid (And.intro hx1 (And.intro hx2 (And.intro hx4 hx5)))
       clear hx1 hx2 hx3 hx4 hx5 hv1
       refine hK _ _ ?_
       clear hK K
       refine wpAnyIn_ready (rs := [5]) (by kernel_rfl) (by simp) ?_
       refine AllReadyIn.cons rfl (fun K hK => ?_) ?_
       ·go_simp
        refine hK _ _ ?_
        clear hK K
        refine wpAnyIn_done (by kernel_rfl) ?_ _
        gi_wp2
        exact bcut_round _ HW.out.1 HW.out.2 HB1.out HO1.out HC1.out HX.out HEL.out HOWN.out hsz HBW.out
       exact AllReadyIn.nil
      exact AllReadyIn.nil
     exact AllReadyIn.nil
    exact AllReadyIn.nil
   exact AllReadyIn.nil
  refine AllReadyIn.cons rfl (fun K hK => ?_) ?_
  ·go_simp
   refine hK _ _ ?_
   clear hK K
   refine wpAnyIn_ready (rs := [0, 2]) (by kernel_rfl) (by simp) ?_
   refine AllReadyIn.cons rfl (fun K hK => ?_) ?_
   ·go_simp
    refine hK _ _ ?_
    clear hK K
    refine wpAnyIn_ready (rs := [2]) (by kernel_rfl) (by simp) ?_
    refine AllReadyIn.cons rfl (fun K hK => ?_) ?_
    ·go_simp
     gi_wp2_with (refine ⟨trivial, ?_⟩; gi_at_call 303; refine (CallsIn.inRound l (callsIn_wide.2 (iclone_any _ x.len _ (Ck.of L x) _ (by omega) (by omega) HROW.out))).mono ?_; rintro e w1 ⟨A1, c1, rfl, ho1, hc1, hc2, hb1⟩)
     have HO1 := Lib.hid (ho1 : w1.ownsRow W.heap.size 41 5 (.slice A1 x.len c1) x.len (itc (Ck.of L x)))
     have HB1 := Lib.hid (((Below.refl W.heap.size W).drew).trans hb1)
     have hcc := (HB1.out.cell (p := ⟨w.heap.size, 0, none⟩) HV.out.lt).trans hc
     have hca := (World.cell?_alloc_lt w1 (.cells #[.slice A1 x.len c1] 38) ⟨w.heap.size, 0, none⟩ (by have := HB1.out.size; have : w1.drew.heap.size = w1.heap.size := rfl; simp; omega)).trans hcc
     have HC1 := Lib.hid (And.intro hc1 hc2)
     clear ho1 hb1 hc1 hc2
     refine wpAnyIn_ready (rs := [3]) (by kernel_rfl) (by simp) ?_
     refine AllReadyIn.cons rfl (fun K hK => ?_) ?_
     ·go_simp
      refine hK _ _ ?_
      clear hK K
      refine wpAnyIn_ready (rs := [4]) (by kernel_rfl) (by simp) ?_
      refine AllReadyIn.cons rfl (fun K hK => ?_) ?_
      ·refine step_appI rfl (.tmp 13) (.tmp 16) _ rfl (w.heap.size + 3) 38 i0 _ 1 24 Tryz.underlying53 hi0 hz0 hz1 hz2 rfl (by omega) (by have := HB1.out.size; rw [World.size_alloc]; omega) v pre.length vs rfl ((own_below HOWN.out HB1.out).alloc _) _ (some ⟨w1.heap.size, 0, none⟩) 1 1 [.slice A1 x.len c1] rfl (Row.new w1 #[.slice A1 x.len c1] 38 rfl) (by simp [Value.oneCell']) (pre.length + 1) _ rfl rfl (by unfold maxLen; omega) (by omega) ?_
       intro A3 c3 w3 hown3 hg3 _ _ _
       have HW := Lib.hid (And.intro hown3 hg3)
       clear hown3 hg3
       have hv1 : Boxed w1 w.heap.size 53 v := (HB1.out.block _ HV.out.lt).trans HV.out
       obtain ⟨hx1, hx2, hx3, hx4, hx5⟩ := hv1.appended (by decide) (own_base (own_below HOWN.out HB1.out) (Nat.le_add_right _ 3)) (by have := HB1.out.size; omega) (Nat.le_refl _) (own_base HW.out.1 (Nat.le_add_right _ 3)) HW.out.2
       have hcc3 := hx1.cell
       have hcf3 := hx1.frozen
       have HX := Lib.hid (And.intro hx1 (And.intro hx2 (And.intro hx4 hx5)))
       clear hx1 hx2 hx3 hx4 hx5 hv1
       refine hK _ _ ?_
       clear hK K
       refine wpAnyIn_ready (rs := [5]) (by kernel_rfl) (by simp) ?_
       refine AllReadyIn.cons rfl (fun K hK => ?_) ?_
       ·go_simp
        refine hK _ _ ?_
        clear hK K
        refine wpAnyIn_done (by kernel_rfl) ?_ _
        gi_wp2
        exact bcut_round _ HW.out.1 HW.out.2 HB1.out HO1.out HC1.out HX.out HEL.out HOWN.out hsz HBW.out
       exact AllReadyIn.nil
      exact AllReadyIn.nil
     exact AllReadyIn.nil
    exact AllReadyIn.nil
   refine AllReadyIn.cons rfl (fun K hK => ?_) ?_
   ·go_simp
    gi_wp2_with (refine ⟨trivial, ?_⟩; gi_at_call 303; refine (CallsIn.inRound l (callsIn_wide.2 (iclone_any _ x.len _ (Ck.of L x) _ (by omega) (by omega) HROW.out))).mono ?_; rintro e w1 ⟨A1, c1, rfl, ho1, hc1, hc2, hb1⟩)
    have HO1 := Lib.hid (ho1 : w1.ownsRow W.heap.size 41 5 (.slice A1 x.len c1) x.len (itc (Ck.of L x)))
    have HB1 := Lib.hid (((Below.refl W.heap.size W).drew).trans hb1)
    have hcc := (HB1.out.cell (p := ⟨w.heap.size, 0, none⟩) HV.out.lt).trans hc
    have hca := (World.cell?_alloc_lt w1 (.cells #[.slice A1 x.len c1] 38) ⟨w.heap.size, 0, none⟩ (by have := HB1.out.size; have : w1.drew.heap.size = w1.heap.size := rfl; simp; omega)).trans hcc
    have HC1 := Lib.hid (And.intro hc1 hc2)
    clear ho1 hb1 hc1 hc2
    refine wpAnyIn_ready (rs := [0, 3]) (by kernel_rfl) (by simp) ?_
    refine AllReadyIn.cons rfl (fun K hK => ?_) ?_
    ·go_simp
     refine hK _ _ ?_
     clear hK K
     refine wpAnyIn_ready (rs := [3]) (by kernel_rfl) (by simp) ?_
     refine AllReadyIn.cons rfl (fun K hK => ?_) ?_
     ·go_simp
      refine hK _ _ ?_
      clear hK K
      refine wpAnyIn_ready (rs := [4]) (by kernel_rfl) (by simp) ?_
      refine AllReadyIn.cons rfl (fun K hK => ?_) ?_
      ·refine step_appI rfl (.tmp 13) (.tmp 16) _ rfl (w.heap.size + 3) 38 i0 _ 1 24 Tryz.underlying53 hi0 hz0 hz1 hz2 rfl (by omega) (by have := HB1.out.size; rw [World.size_alloc]; omega) v pre.length vs rfl ((own_below HOWN.out HB1.out).alloc _) _ (some ⟨w1.heap.size, 0, none⟩) 1 1 [.slice A1 x.len c1] rfl (Row.new w1 #[.slice A1 x.len c1] 38 rfl) (by simp [Value.oneCell']) (pre.length + 1) _ rfl rfl (by unfold maxLen; omega) (by omega) ?_
       intro A3 c3 w3 hown3 hg3 _ _ _
       have HW := Lib.hid (And.intro hown3 hg3)
       clear hown3 hg3
       have hv1 : Boxed w1 w.heap.size 53 v := (HB1.out.block _ HV.out.lt).trans HV.out
       obtain ⟨hx1, hx2, hx3, hx4, hx5⟩ := hv1.appended (by decide) (own_base (own_below HOWN.out HB1.out) (Nat.le_add_right _ 3)) (by have := HB1.out.size; omega) (Nat.le_refl _) (own_base HW.out.1 (Nat.le_add_right _ 3)) HW.out.2
       have hcc3 := hx1.cell
       have hcf3 := hx1.frozen
       have HX := Lib.hid (And.intro hx1 (And.intro hx2 (And.intro hx4 hx5)))
       clear hx1 hx2 hx3 hx4 hx5 hv1
       refine hK _ _ ?_
       clear hK K
       refine wpAnyIn_ready (rs := [5]) (by kernel_rfl) (by simp) ?_
       refine AllReadyIn.cons rfl (fun K hK => ?_) ?_
       ·go_simp
        refine hK _ _ ?_
        clear hK K
        refine wpAnyIn_done (by kernel_rfl) ?_ _
        gi_wp2
        exact bcut_round _ HW.out.1 HW.out.2 HB1.out HO1.out HC1.out HX.out HEL.out HOWN.out hsz HBW.out
       exact AllReadyIn.nil
      exact AllReadyIn.nil
     exact AllReadyIn.nil
    refine AllReadyIn.cons rfl (fun K hK => ?_) ?_
    ·go_simp
     refine hK _ _ ?_
     clear hK K
     refine wpAnyIn_ready (rs := [0]) (by kernel_rfl) (by simp) ?_
     refine AllReadyIn.cons rfl (fun K hK => ?_) ?_
     ·go_simp
      refine hK _ _ ?_
      clear hK K
      refine wpAnyIn_ready (rs := [4]) (by kernel_rfl) (by simp) ?_
      refine AllReadyIn.cons rfl (fun K hK => ?_) ?_
      ·refine step_appI rfl (.tmp 13) (.tmp 16) _ rfl (w.heap.size + 3) 38 i0 _ 1 24 Tryz.underlying53 hi0 hz0 hz1 hz2 rfl (by omega) (by have := HB1.out.size; rw [World.size_alloc]; omega) v pre.length vs rfl ((own_below HOWN.out HB1.out).alloc _) _ (some ⟨w1.heap.size, 0, none⟩) 1 1 [.slice A1 x.len c1] rfl (Row.new w1 #[.slice A1 x.len c1] 38 rfl) (by simp [Value.oneCell']) (pre.length + 1) _ rfl rfl (by unfold maxLen; omega) (by omega) ?_
       intro A3 c3 w3 hown3 hg3 _ _ _
       have HW := Lib.hid (And.intro hown3 hg3)
       clear hown3 hg3
       have hv1 : Boxed w1 w.heap.size 53 v := (HB1.out.block _ HV.out.lt).trans HV.out
       obtain ⟨hx1, hx2, hx3, hx4, hx5⟩ := hv1.appended (by decide) (own_base (own_below HOWN.out HB1.out) (Nat.le_add_right _ 3)) (by have := HB1.out.size; omega) (Nat.le_refl _) (own_base HW.out.1 (Nat.le_add_right _ 3)) HW.out.2
       have hcc3 := hx1.cell
       have hcf3 := hx1.frozen
       have HX := Lib.hid (And.intro hx1 (And.intro hx2 (And.intro hx4 hx5)))
       clear hx1 hx2 hx3 hx4 hx5 hv1
       refine hK _ _ ?_
       clear hK K
       refine wpAnyIn_ready (rs := [5]) (by kernel_rfl) (by simp) ?_
       refine AllReadyIn.cons rfl (fun K hK => ?_) ?_
       ·go_simp
        refine hK _ _ ?_
        clear hK K
        refine wpAnyIn_done (by kernel_rfl) ?_ _
        gi_wp2
        exact bcut_round _ HW.out.1 HW.out.2 HB1.out HO1.out HC1.out HX.out HEL.out HOWN.out hsz HBW.out
       exact AllReadyIn.nil
      exact AllReadyIn.nil
     exact AllReadyIn.nil
    exact AllReadyIn.nil
   exact AllReadyIn.nil
  exact AllReadyIn.nil
 case done =>
  rintro D ys W hD hys ⟨⟨_, v, hv, hcu⟩, hB⟩ hK
  have hc := hv.cell
  gi_wp2
  have hcu2 := hcu.kept (grownBy_putObj' W D (.deferred none)) (fun r e cs fr => by cases e; rw [hK]; exact ⟨nofun, nofun⟩)
  obtain ⟨A', k', c', rfl, hkc1, hkc2⟩ : ∃ A' k c', v = .slice A' k c' ∧ k ≤ c' ∧ c' ≤ maxLen := by
   obtain ⟨vs, h1, _⟩ := hcu
   obtain ⟨A', c', e, h2, h3, _⟩ := own_form h1
   exact ⟨_, _, _, e, h2, h3⟩
  obtain ⟨hk', hrows⟩ := hcu2.rows
  refine ⟨by simp, .inl ⟨_, _, rfl, run_takeDeferred hK, ?_⟩⟩
  exact ⟨_, results_tmp rfl _ _ _, A', k', c', rfl, hkc1, hkc2, by rw [← hys]; exact hrows, hB.trans (belowK_b (w := w) (Nat.le_refl _) W D _ _ (by simp at hD; omega) hK rfl rfl)⟩
 case stop =>
  rintro D c pre W _ _ h _
  exact h.elim
end Go.Proofs.YtpdaolongmgmgaaGreatDoor
namespace Go.Proofs.YtpdaolongmgmgaaGreatDoor
open Go Go.RowKit Go.Lib
theorem Fr.take_not1 (l : List UInt8) (p : Nat) : (Fr.take l p).2.2.2 ≠ 1 ∧ (Fr.take l p).2.1.length ≤ l.length := by
 unfold Fr.take
 split
 ·simp
 ·split
  ·simp
  ·split
   ·simp
   ·split
    ·simp
    ·split
     ·simp
     ·refine ⟨by simp, ?_⟩
      simp only [List.length_take, List.length_drop]
      omega
theorem bmay1_any (a : It) (w : World) : Calls Tryz.prog 302 #[a.val] w fun e w' => e = .returned (.bool (!a.ok)) ∧ Below w.heap.size w w' := by
 have hok := fun W => iok_any a W
 unfold It.val at hok ⊢
 go_enter Tryz.func302, Tryz.ntmps302
 go_wp2_with fail
 refine (hok _).mono ?_
 rintro e w1 ⟨rfl, hb⟩
 go_wp2
 go_ret
 exact ⟨rfl, later_ ((Below.refl _ _).alloc (Nat.le_refl _) _) hb⟩
set_option maxRecDepth 100000 in
set_option maxHeartbeats 1000000 in
theorem bmay_any (A : Option Addr) (n c : Nat) (l : List It) (w : World) (hn : n ≤ 1000000) (hr : Row w.heap.size w A n 5 (itc l)) :
  Calls Tryz.prog 251 #[.slice A n c] w fun e w' => e = .returned (.bool (Tb.may l)) ∧ Below w.heap.size w w' := by
 have hnn := hr.itlen
 have hri := irises_any A n c l w hn hr
 have hca := fun (W : World) (hb : Below w.heap.size w W) => ihas_cap 302 (fun _ _ => rfl) #[] (fun x => !x.ok) A n c l W hn ((hr.below hb).up hb.size) (fun x w1 _ => bmay1_any x w1)
 simp only [any_nok] at hca
 obtain ⟨rb, hrb⟩ : ∃ rb, rb = decide (Rises l) := ⟨_, rfl⟩
 obtain ⟨ab, hab⟩ : ∃ ab, ab = l.all It.ok := ⟨_, rfl⟩
 have hm : Tb.may l = (decide (0 < n) && rb && ab) := by
  unfold Tb.may
  rw [hrb, hab]
  congr 2
  rw [decide_eq_decide, ← hnn, List.length_pos_iff]
 rw [← hrb] at hri
 rw [← hab] at hca
 rw [hm]
 have HRI := Lib.hid hri
 have HCA := Lib.hid hca
 clear hri hca hm hr hrb hab
 by_cases h0 : 0 < n
 ·have h0i : (0 : Int) < (n : Int) := by omega
  have hd : decide (0 < n) = true := decide_eq_true h0
  rw [hd]
  go_enter Tryz.func251, Tryz.ntmps251
  go_wp2_with fail
  refine HRI.out.mono ?_
  rintro e w1 ⟨rfl, hb1⟩
  cases rb with
  | false =>
   go_wp2
   go_ret
   exact ⟨rfl, hb1⟩
  | true =>
   go_wp2_with fail
   refine (HCA.out _ hb1).mono ?_
   rintro e w2 ⟨rfl, hb2⟩
   have hbz := later_ hb1 hb2
   go_wp2
   go_ret
   exact ⟨ret_bo (by simp), hbz⟩
 ·have h0i : ((0 : Int) < (n : Int)) = False := eq_false (by omega)
  have hd : decide (0 < n) = false := decide_eq_false h0
  rw [hd]
  go_enter Tryz.func251, Tryz.ntmps251
  go_wp2
  go_ret
  exact ⟨rfl, Below.refl _ _⟩
set_option maxRecDepth 100000 in
set_option maxHeartbeats 1000000 in
theorem bput_any (A : Option Addr) (N c : Nat) (b : List UInt8) (L : Option Addr) (m d : Nat) (l : List It) (w : World) (hN : N ≤ 1000000) (hNc : N ≤ c) (hcm : c ≤ maxLen) (hm : m ≤ 100) (hr : Row w.heap.size w A N 1 (bts b)) (hq : Row w.heap.size w L m 5 (itc l)) (hmay : Tb.may l = true) (hf : ∀ x ∈ l, x.fit) :
  Calls Tryz.prog 255 #[.slice A N c, .slice L m d] w fun e w' => ∃ A' M c', e = .returned (.tuple #[.slice A' M c', .int .i64 0]) ∧
   w'.ownsRow w.heap.size 5 1 (.slice A' M c') M (bts (b ++ Fr.put 2 (It.bytes l))) ∧ M ≤ c' ∧ c' ≤ maxLen ∧ Below w.heap.size w w' := by
 have hmn := hq.itlen
 have hbm := bmay_any L m d l w (by omega) hq
 rw [hmay] at hbm
 have hok : ∀ x ∈ l, x.ok = true ∧ x.fit := fun x hx => by
  simp only [Tb.may, Bool.and_eq_true, List.all_eq_true] at hmay
  exact ⟨hmay.2 x hx, hf x hx⟩
 have hib := fun (W : World) (hb : Below w.heap.size w W) => ibytes_any none 0 0 [] L m d l W (by omega) (by omega) Row.nil_ ((hq.below hb).up hb.size) hok
 simp only [List.nil_append] at hib
 have hbl := It.bytes_len l
 have hm1 : ((100 : Int) < (m : Int)) = False := eq_false (by omega)
 have HBM := Lib.hid hbm
 have HIB := Lib.hid hib
 clear hbm hib hq hok hmay hf
 go_enter Tryz.func255, Tryz.ntmps255
 go_wp2_with fail
 refine HBM.out.mono ?_
 rintro e w1 ⟨rfl, hb1⟩
 go_wp2_with fail
 refine (HIB.out _ hb1).mono ?_
 rintro e w2 ⟨A1, M1, c1, rfl, ho1, hc1, hmx, hb2⟩
 have hML : M1 = (It.bytes l).length := by
  have := ho1.1
  rw [bts_length] at this
  omega
 have hb12 := later_ hb1 hb2
 have hfp := fput_any A N c b 2 A1 M1 c1 (It.bytes l) w2 (by omega) hNc hcm ((hr.below hb12).up hb12.size) (by omega) (by omega) (by omega) hc1 hmx (Row.own ho1)
 have HFP := Lib.hid hfp
 clear hfp ho1 HIB HBM hML hr
 go_wp2_with fail
 refine HFP.out.mono ?_
 rintro e w3 ⟨A2, M2, c2, rfl, ho2, hc2, hm2, hb3⟩
 have hob := own_base ho2 hb12.size
 have hbz := later_ hb12 hb3
 have HF := Lib.hid (And.intro hob (And.intro hc2 (And.intro hm2 hbz)))
 clear ho2 hob hbz HFP
 go_wp2
 go_ret2
 exact ⟨A2, M2, c2, rfl, HF.out⟩
def bkTake (b : List UInt8) (p : Nat) : List It × Nat × Nat :=
 if (Fr.take b p).2.2.2 = 0 ∧ (Fr.take b p).1 = 2 ∧ (It.read (Fr.take b p).2.1).2 = 0 ∧ (It.read (Fr.take b p).2.1).1.length ≤ 100 ∧ Tb.may (It.read (Fr.take b p).2.1).1 = true then
  ((It.read (Fr.take b p).2.1).1, (Fr.take b p).2.2.1, 0) else ([], 0, 9)
def BtkPost (w : World) (R : List It × Nat × Nat) (e : Ending) (w' : World) : Prop := ∃ A' k c', e = .returned (.tuple #[.slice A' k c', .int .i64 (R.2.1 : Int), .int .i64 (R.2.2 : Int)]) ∧ k = R.1.length ∧ Its w.heap.size w' A' k c' R.1 ∧ Below w.heap.size w w'
set_option maxRecDepth 100000 in
set_option maxHeartbeats 2000000 in
theorem btake_any (A : Option Addr) (N c : Nat) (b : List UInt8) (p : Nat) (w : World) (hN : N ≤ 1000000) (hNc : N ≤ c) (hcm : c ≤ maxLen) (hr : Row w.heap.size w A N 1 (bts b)) (hp : p ≤ N) :
  Calls Tryz.prog 190 #[.slice A N c, .int .i64 (p : Int)] w (BtkPost w (bkTake b p)) := by
 have hln := hr.btlen
 have hft := ftake_any A N c b p w (by omega) hNc hcm hr hp
 obtain ⟨hn1, hbl⟩ := Fr.take_not1 b p
 obtain ⟨R, hR⟩ : ∃ R, R = bkTake b p := ⟨_, rfl⟩
 rw [← hR]
 unfold bkTake at hR
 generalize Fr.take b p = T at *
 obtain ⟨kd, body, nx, er⟩ := T
 simp only at hft hn1 hbl hR
 have hbad : ∀ w', Below w.heap.size w w' → R = ([], 0, 9) → BtkPost w R (.returned (.tuple #[.slice none 0 0, .int .i64 0, .int .i64 9])) w' := fun w' hb e => by
  rw [e]
  exact ⟨none, 0, 0, rfl, rfl, Its.nil _ _, hb⟩
 have HFT := Lib.hid hft
 have HR := Lib.hid hR
 have HBAD := Lib.hid hbad
 have he1 : ((er : Int) == 1) = false := by simp; omega
 clear hft hR hbad hr
 by_cases he : er = 0
 ·by_cases hk : kd = 2
  ·subst he hk
   have hR2 := HR.out
   have hbN : body.length ≤ 1000000 := by omega
   obtain ⟨Q, hQ⟩ : ∃ Q, Q = It.read body := ⟨_, rfl⟩
   rw [← hQ] at hR2
   obtain ⟨q, qe⟩ := Q
   simp only [true_and] at hR2
   have hrd := fun (A1 : Option Addr) (M1 c1 : Nat) (W : World) h1 h2 h3 h4 => iread_any A1 M1 c1 body W h1 h2 h3 h4
   simp only [← hQ] at hrd
   have HRD := Lib.hid hrd
   have HR2 := Lib.hid hR2
   clear hR2 hrd hQ HR
   go_enter Tryz.func190, Tryz.ntmps190
   go_wp2_with fail
   refine HFT.out.mono ?_
   rintro e w1 ⟨A1, M1, c1, rfl, ho1, hc1, hm1, hb1⟩
   have hML : M1 = body.length := by
    have := ho1.1
    rw [bts_length] at this
    omega
   have hrd1 := HRD.out A1 M1 c1 w1 (by omega) hc1 hm1 (Row.own ho1)
   have HR1 := Lib.hid hrd1
   clear hrd1 ho1 HFT HRD hML
   go_wp2_with fail
   refine HR1.out.mono ?_
   rintro e w2 ⟨A2, k, c2, rfl, hkl, hits, hb2⟩
   simp only at hkl hits
   have hb12 := later_ hb1 hb2
   have hlow : Its w.heap.size w2 A2 k c2 q := ⟨hits.row, hits.nc, hits.cm, fun a ha => Nat.le_trans hb1.size (hits.low a ha)⟩
   have HL := Lib.hid hlow
   have HKL := Lib.hid hkl
   have HB12 := Lib.hid hb12
   clear hits hb2 hb12 HR1 hlow hb1
   by_cases hqe : qe = 0
   ·subst hqe
    by_cases hk1 : k ≤ 100
    ·have hk1i : ((100 : Int) < (k : Int)) = False := eq_false (by omega)
     have hbm := bmay_any A2 k c2 q w2 (by omega) HL.out.row
     obtain ⟨mb, hmb⟩ : ∃ mb, mb = Tb.may q := ⟨_, rfl⟩
     rw [← hmb] at hbm
     have HBM := Lib.hid hbm
     have HMB := Lib.hid hmb
     clear hbm hkl hmb
     go_wp2_with fail
     refine HBM.out.mono ?_
     rintro e w3 ⟨rfl, hb3⟩
     have hb13 := later_ HB12.out hb3
     cases mb with
     | true =>
      have hRR : R = (q, nx, 0) := by rw [HR2.out, if_pos ⟨trivial, by rw [← HKL.out]; exact hk1, HMB.out.symm⟩]
      have hit3 : Its w.heap.size w3 A2 k c2 q := ⟨(HL.out.row.below hb3).up hb3.size, HL.out.nc, HL.out.cm, HL.out.low⟩
      have HF := Lib.hid (show BtkPost w R (.returned (.tuple #[.slice A2 k c2, .int .i64 (nx : Int), .int .i64 0])) w3 from by rw [hRR]; exact ⟨A2, k, c2, rfl, HKL.out, hit3, hb13⟩)
      clear hRR hit3 hb13 hb3 HBM
      go_wp2
      refine bodyPost_ret (v := .tuple #[.slice A2 k c2, .int .i64 (nx : Int), .int .i64 0]) (by simp [results, go_sem]) rfl HF.out
     | false =>
      have hRR : R = ([], 0, 9) := by rw [HR2.out, if_neg (by rw [← HMB.out]; simp)]
      have HF := Lib.hid (HBAD.out w3 hb13 hRR)
      clear hRR hb13 hb3 HBM
      go_wp2
      refine bodyPost_ret (v := .tuple #[.slice none 0 0, .int .i64 0, .int .i64 9]) (by simp [results, go_sem]) rfl HF.out
    ·have hk1i : (100 : Int) < (k : Int) := by omega
     have hRR : R = ([], 0, 9) := by rw [HR2.out, if_neg (by rw [← HKL.out]; exact fun h => hk1 h.2.1)]
     have HF := Lib.hid (HBAD.out w2 HB12.out hRR)
     clear hRR hkl
     go_wp2
     refine bodyPost_ret (v := .tuple #[.slice none 0 0, .int .i64 0, .int .i64 9]) (by simp [results, go_sem]) rfl HF.out
   ·have hqe3 : ((qe : Int) == 0) = false := by simp; omega
    have hRR : R = ([], 0, 9) := by rw [HR2.out, if_neg (fun h => hqe h.1)]
    have HF := Lib.hid (HBAD.out w2 HB12.out hRR)
    clear hRR hkl
    go_wp2
    refine bodyPost_ret (v := .tuple #[.slice none 0 0, .int .i64 0, .int .i64 9]) (by simp [results, go_sem]) rfl HF.out
  ·have hk3 : ((kd : Int) == 2) = false := by simp; omega
   subst he
   have hR9 : R = ([], 0, 9) := by rw [HR.out, if_neg (by simp [hk])]
   have H9 := Lib.hid hR9
   clear hR9
   go_enter Tryz.func190, Tryz.ntmps190
   go_wp2_with fail
   refine HFT.out.mono ?_
   rintro e w1 ⟨A1, M1, c1, rfl, ho1, hc1, hm1, hb1⟩
   clear ho1 HFT
   go_wp2
   refine bodyPost_ret (v := .tuple #[.slice none 0 0, .int .i64 0, .int .i64 9]) (by simp [results, go_sem]) rfl (HBAD.out _ hb1 H9.out)
 ·have he3 : ((er : Int) == 0) = false := by simp; omega
  have hR9 : R = ([], 0, 9) := by rw [HR.out, if_neg (by simp [he])]
  have H9 := Lib.hid hR9
  clear hR9
  go_enter Tryz.func190, Tryz.ntmps190
  go_wp2_with fail
  refine HFT.out.mono ?_
  rintro e w1 ⟨A1, M1, c1, rfl, ho1, hc1, hm1, hb1⟩
  clear ho1 HFT
  go_wp2
  refine bodyPost_ret (v := .tuple #[.slice none 0 0, .int .i64 0, .int .i64 9]) (by simp [results, go_sem]) rfl (HBAD.out _ hb1 H9.out)
end Go.Proofs.YtpdaolongmgmgaaGreatDoor
namespace Go.Proofs.YtpdaolongmgmgaaGreatDoor
open Go Go.RowKit Go.Lib
structure BlAt (w : World) (f g : Nat) (b : List UInt8) : Prop where
 box : BoxO w 366 f [.int .i64 7, .slice (some ⟨g, 0, none⟩) b.length b.length]
 bits : BoxO w 5 g (bts b)
 ne : f ≠ g
theorem BlAt.below {w w' : World} {f g : Nat} {b : List UInt8} (h : BlAt w f g b) (hb : Below w.heap.size w w') : BlAt w' f g b := ⟨h.box.below hb, h.bits.below hb, h.ne⟩
theorem BlAt.chg {F : List Nat} {w w' : World} {f g : Nat} {b : List UInt8} (h : BlAt w f g b) (hb : Chg F w w') (h1 : f ∉ F) (h2 : g ∉ F) : BlAt w' f g b := ⟨h.box.chg hb h1, h.bits.chg hb h2, h.ne⟩
set_option maxRecDepth 100000 in
set_option maxHeartbeats 1000000 in
theorem blnew_any (n : Nat) (w : World) (hn : n ≤ 2000) :
  Calls Tryz.prog 304 #[.int .i64 (n : Int), .int .i64 10] w fun e w' => ∃ f g, e = .returned (.tuple #[.pointer (some ⟨f, 0, none⟩), .int .i64 0]) ∧ BlAt w' f g (List.replicate (Tb.fsize n) 0) ∧ w.heap.size ≤ f ∧ w.heap.size ≤ g ∧ Below w.heap.size w w' := by
 obtain ⟨i0, hi0, hz0, hz1, hz2⟩ := info_parts info_u8
 obtain ⟨fs, hfs⟩ : ∃ fs, fs = Tb.fsize n := ⟨_, rfl⟩
 have hfb : fs ≤ 3000 := by rw [hfs]; unfold Tb.fsize; omega
 obtain ⟨cs, hcs, hmk⟩ := make1 22 5 i0 (Value.int .u8 0) Tryz.underlying22 hi0 hz0 hz1 rfl fs (by rw [hz2]; omega) (by omega)
 rw [← hfs]
 have n1 : ((n : Int) < 0) = False := eq_false (by omega)
 have n2 : (10000 < (n : Int)) = False := eq_false (by omega)
 have hw1 : IntKind.i64.wrap ((n : Int) * 10) = (n : Int) * 10 := IntWalk.i64_in _ (by omega)
 have hq : (max ((n : Int) * 10) 64 + 8 - 1) / 8 = (fs : Int) := by rw [hfs]; unfold Tb.fsize; omega
 have h71 : max (7 : Int) 1 = 7 := by decide
 have HFS := Lib.hid hfs
 clear hfs
 go_enter Tryz.func304, Tryz.ntmps304
 go_wp2
 go_ret2
 have hb0 : BoxO (w.alloc (.cells cs 5)) 5 w.heap.size (bts (List.replicate fs 0)) := by
  have := BoxO.new w cs 5
  rw [hcs] at this
  simpa [bts] using this
 have hsz : (w.alloc (.cells cs 5)).heap.size = w.heap.size + 1 := by simp
 refine ⟨w.heap.size + 1, w.heap.size, rfl, ⟨?_, hb0.alloc _, by omega⟩, by omega, Nat.le_refl _, ((Below.refl w.heap.size w).alloc (Nat.le_refl _) _).alloc (by omega) _⟩
 rw [← hsz, List.length_replicate]
 exact BoxO.new _ _ _
theorem bl_val (hv k size x : Nat) (hx : x = (((hv % 4294967296 + k * (hv / 4294967296)) % 4294967296)) % (size * 8)) : ((hv : Int) + (k : Int) * ((hv : Int) / 4294967296)) % 4294967296 % ((size : Int) * 8) = (x : Int) := by
 have hq : ((k * (hv / 4294967296) : Nat) : Int) = (k : Int) * ((hv : Int) / 4294967296) := by rw [Int.natCast_mul, Int.natCast_ediv]; rfl
 have e : (hv % 4294967296 + k * (hv / 4294967296)) % 4294967296 = (hv + k * (hv / 4294967296)) % 4294967296 := by
  generalize k * (hv / 4294967296) = q
  omega
 rw [hx, e, ← hq]
 generalize k * (hv / 4294967296) = q
 have h3 : ((hv : Int) + (q : Int)) % 4294967296 = (((hv + q) % 4294967296 : Nat) : Int) := by omega
 have h4 : (size : Int) * 8 = ((size * 8 : Nat) : Int) := by omega
 rw [h3, h4]
 exact (Int.natCast_emod _ _).symm
theorem bl_lt (hv k size x : Nat) (hb0 : 0 < size) (hbl : size ≤ 3000) (hx : x = (((hv % 4294967296 + k * (hv / 4294967296)) % 4294967296)) % (size * 8)) : x < 24000 := by
 have := Nat.mod_lt (((hv % 4294967296 + k * (hv / 4294967296)) % 4294967296)) (show 0 < size * 8 by omega)
 rw [← hx] at this
 omega
theorem bl_wrap (x : Nat) (hxl : x < 24000) : wrap64 (x : Int) = (x : Int) := by unfold wrap64; omega
set_option maxRecDepth 100000 in
set_option maxHeartbeats 2000000 in
theorem blplaces_any (f g : Nat) (b : List UInt8) (K : Option Addr) (m c : Nat) (key : List UInt8) (w : World) (h : BlAt w f g b) (hb0 : 0 < b.length) (hbl : b.length ≤ 3000) (hm : m ≤ 1000) (hr : Row w.heap.size w K m 1 (bts key)) :
  Calls Tryz.prog 332 #[.pointer (some ⟨f, 0, none⟩), .slice K m c] w fun e w' => ∃ A' c', e = .returned (.slice A' 7 c') ∧ w'.ownsRow w.heap.size 3 1 (.slice A' 7 c') 7 (i64v (Tb.places b.length key)) ∧ Below w.heap.size w w' := by
 obtain ⟨i0, hi0, hz0, hz1, hz2⟩ := info_parts info_int
 have hh := hash_any K m c key w (by omega) hr
 obtain ⟨size, hsize⟩ : ∃ size, size = b.length := ⟨_, rfl⟩
 obtain ⟨hv, hhv⟩ : ∃ hv, hv = (Fnv.hash key).toNat := ⟨_, rfl⟩
 obtain ⟨P, hP⟩ : ∃ P, P = Tb.places size key := ⟨_, rfl⟩
 have hvl : hv < 18446744073709551616 := by rw [hhv]; exact (Fnv.hash key).isLt
 have hPl : P.length = 7 := by rw [hP]; simp [Tb.places]
 have hPk : ∀ k, k < 7 → P[k]? = some ((((hv % 4294967296 + k * (hv / 4294967296)) % 4294967296)) % (size * 8)) := fun k hk => by
  rw [hP, hhv]
  simp [Tb.places, hk]
 rw [← hsize, ← hP]
 rw [← hhv] at hh
 have c0 := h.box.cell 0
 have c1 := h.box.cell 1
 simp only [List.getElem?_cons_zero, List.getElem?_cons_succ, ← hsize] at c0 c1
 rw [← hsize] at hb0 hbl
 have HH := Lib.hid hh
 have HPK := Lib.hid hPk
 have HPL := Lib.hid hPl
 clear hh hPk hP hhv hsize h hPl hr
 go_enter Tryz.func332, Tryz.ntmps332
 go_wp2_with fail
 refine HH.out.mono ?_
 rintro e w1 ⟨rfl, rfl⟩
 clear HH
 go_wp2_with fail
 go_loopw [9, 29] (fun o i wr => ∃ (k : Nat) (A2 : Option Addr) (c2 : Nat), k ≤ 7 ∧ o = .slice A2 k c2 ∧ i = .int .i64 (k : Int) ∧ wr.ownsRow w.heap.size 3 1 (.slice A2 k c2) k (i64v (P.take k)) ∧ Below w.heap.size w wr) (fun _ i _ => 7 - (intOf i).toNat)
 case atStart => exact ⟨0, none, 0, by omega, rfl, rfl, World.ownsRow_nil _ _ _ _, Below.refl _ _⟩
 case round =>
  obtain ⟨k, A2, c2, hk7, rfl, rfl, ho, hbl2⟩ := hrel
  have HO := Lib.hid ho
  clear ho
  by_cases hk : k < 7
  ·have hki : (k : Int) < 7 := by omega
   have hwk : IntKind.i64.wrap (k : Int) = (k : Int) := IntWalk.i64_in _ (by omega)
   have hwu : IntKind.u32.wrap (k : Int) = (k : Int) := by simp only [IntKind.wrap_u32]; omega
   obtain ⟨x, hx⟩ : ∃ x : Nat, x = (((hv % 4294967296 + k * (hv / 4294967296)) % 4294967296)) % (size * 8) := ⟨_, rfl⟩
   have hpk := HPK.out k hk
   rw [← hx] at hpk
   have hxv := bl_val hv k size x hx
   have hxl := bl_lt hv k size x hb0 hbl hx
   have hw64 := bl_wrap x hxl
   have htk : i64v (P.take k) ++ [.int .i64 (x : Int)] = i64v (P.take (k + 1)) := by
    rw [List.take_add_one, hpk, i64v_snoc]
    rfl
   have hrow : Row (wr.alloc (.cells #[.int .i64 (x : Int)] 3)).heap.size (wr.alloc (.cells #[.int .i64 (x : Int)] 3)) (some ⟨wr.heap.size, 0, none⟩) 1 1 [.int .i64 (x : Int)] := by
    have := Row.new wr #[.int .i64 (x : Int)] 3 (n := 1) (size := 1) rfl
    simpa using this
   have hbA := hbl2.alloc hbl2.size (.cells #[.int .i64 (x : Int)] 3)
   have hoA := HO.out.alloc (.cells #[.int .i64 (x : Int)] 3)
   have HR := Lib.hid hrow
   have HB := Lib.hid hbA
   have HOA := Lib.hid hoA
   have HT := Lib.hid htk
   clear hrow hbA hoA htk hpk hx HO
   go_wp2_with (at_builtin; refine stop_in ?_)
   refine stop_out (wpList_app rfl (.tmp 32) (.tmp 42) _ rfl w.heap.size 3 i0 _ 1 8 Tryz.underlying55 hi0 hz0 hz1 hz2 rfl (by omega) w HB.out HB.out.size _ k _ rfl HOA.out _ _ 1 1 [.int .i64 (x : Int)] rfl HR.out (by simp [Value.oneCell']) (k + 1) _ rfl HT.out (by unfold maxLen; omega) (by omega) ?_)
   intro A3 c3 w5 z1 z2 z3 z4 z5
   have HF := Lib.hid z1
   clear z1 z3 HR HB HOA HT
   go_wp2
   go_roundw
   case rel => exact ⟨k + 1, A3, c3, by omega, rfl, by go_num, HF.out, z2⟩
   case measure => simp [intOf]; omega
  ·have hki : ((k : Int) < 7) = False := eq_false (by omega)
   have hk7' : k = 7 := by omega
   subst hk7'
   have ho := HO.out
   rw [List.take_of_length_le (by rw [HPL.out]; exact Nat.le_refl _)] at ho
   have HF := Lib.hid ho
   clear ho HO
   go_wp2
   go_ret
   exact ⟨A2, c2, rfl, HF.out, hbl2⟩
end Go.Proofs.YtpdaolongmgmgaaGreatDoor
