/- Texts Step, StepB, DiskF, DiskG in one. No conditions. -/
import Derived.Test.YthepokgkfaocmaaGreatDoorBunB
import Derived.Deep.RegionLaw
import Derived.Test.YthepokgkfaocmaaGreatDoorBunG
import Derived.StillTailTactics

/-
  Words for drawn regions: an append onto a row of the call's own, as one step; and for a new block of a struct.
-/
namespace Go.Proofs.YthepokgkfaocmaaGreatDoor
open Go Go.RowKit

theorem step_appF {P : Program} {ops : Array Oper} {o : Oper} {a : Act} {w : World} {K : Act → World → Prop} {Q : Exit → Act → World → Prop} {E : Prop} (hgd : o.guard = none) (s x : Operand) (t : TypeId)
    (ho : o.op = .call { callee := .builtin .append, args := #[s, x], argTypes := #[t, t] })
    (base : Nat) (e : TypeId) (i : TypeInfo) (z : Value) (size bytes : Nat) (ht : P.underlying t = some (.slice e)) (hi : P.info? e = some i) (hz : i.zero = some z)
    (hsize : i.size = size) (hby : i.bytes = bytes) (hzs : z.cells.size = size) (hsz : 0 < size) (hbase : base ≤ w.heap.size) (v : Value) (n : Nat) (xs : List Value) (hs : a.eval s = v) (hown : w.ownsRow base e size v n xs)
    (B : Nat) (A : Option Addr) (m c : Nat) (hm : 0 < m) (news : List Value) (hx : a.eval x = .slice A m c) (hr : Row B w A m size news) (h1 : ∀ u ∈ news, u.oneCell' = true)
    (N : Nat) (X : List Value) (hN : n + m = N) (hX : xs ++ news = X) (h63 : N ≤ maxLen) (hbytes : N * bytes ≤ 140737488355328)
    (h : ∀ A' c' w', w'.ownsRow base e size (.slice A' N c') N X → w.grownBy w' v.ownBlock → N ≤ c' → c' ≤ maxLen → ((Value.slice A' N c').ownBlock = v.ownBlock ∨ (Value.slice A' N c').ownBlock = some w.heap.size) → K (a.put o.dst (.slice A' N c')) w') :
    if Region.wanted o (yielded ops a.tmps) = true then Oper.wp P o a w K Q else E := by
  have hw : Region.wanted o (yielded ops a.tmps) = true := by simp [Region.wanted, hgd]
  rw [if_pos hw]
  subst hN
  subst hX
  have hpos : 0 < news.length := by
    rw [hr.len]
    exact Nat.mul_pos hm hsz
  obtain ⟨a', rfl, _⟩ := hr.some_ hpos
  obtain ⟨v', w', hrun, h3, h4, _, h6⟩ := run_append_own_at (P := P) (ty := o.type) w base t e i z size bytes ht hi hz hsize hby hzs hsz v n xs hown a' m c news hr.len hr.cells h1 h63 hbytes hbase
  obtain ⟨A', c', rfl, h5, h7, _⟩ := own_form h3
  unfold Oper.wp execOp
  simp only [ho, resolve, invoke, builtin, Sem.run_bind, Sem.run_pure, Result.andThen_ok, List.map_toArray, List.map_cons, List.map_nil, hs, hx, hrun]
  exact h A' c' w' h3 h4 h5 h7 h6
end Go.Proofs.YthepokgkfaocmaaGreatDoor

/-
  Words for memory, more: an append of a row of any length that tells where the row lies behind it.
-/
namespace Go.Proofs.YthepokgkfaocmaaGreatDoor
open Go Go.RowKit

/-- append of a row, of whatever make, onto a row of the call's own: with the block that it lies in behind it. -/
theorem run_appG {P : Program} (w : World) (base : Nat) (t ty e : TypeId) (i : TypeInfo) (z : Value) (size bytes : Nat) (ht : P.underlying t = some (.slice e)) (hi : P.info? e = some i) (hz : i.zero = some z)
    (hsize : i.size = size) (hby : i.bytes = bytes) (hzs : z.cells.size = size) (hsz : 0 < size) (v : Value) (n : Nat) (xs : List Value) (hown : w.ownsRow base e size v n xs)
    (B : Nat) (A : Option Addr) (m c : Nat) (news : List Value) (hr : Row B w A m size news) (h1 : ∀ u ∈ news, u.oneCell' = true)
    (h63 : n + m ≤ maxLen) (hbytes : (n + m) * bytes ≤ 140737488355328) (hbase : base ≤ w.heap.size) :
    ∃ A' c' w', (Builtin.append_ #[t, t] ty #[v, .slice A m c]).run P w = .ok (.slice A' (n + m) c') w' ∧ w'.ownsRow base e size (.slice A' (n + m) c') (n + m) (xs ++ news) ∧ w.grownBy w' v.ownBlock ∧ n + m ≤ c' ∧ c' ≤ maxLen ∧ ((Value.slice A' (n + m) c').ownBlock = v.ownBlock ∨ (Value.slice A' (n + m) c').ownBlock = some w.heap.size) := by
  rcases Nat.eq_zero_or_pos m with h0 | h0
  · subst h0
    have hn : news = [] := List.eq_nil_of_length_eq_zero (by simpa using hr.len)
    subst hn
    obtain ⟨A', c', rfl, h5, h6, _⟩ := own_form hown
    rw [List.append_nil]
    refine ⟨A', c', w, ?_, hown, ⟨rfl, rfl, rfl, Nat.le_refl _, fun _ _ _ => rfl⟩, h5, h6, .inl rfl⟩
    rcases hown.2 with ⟨hv, rfl⟩ | ⟨g, cap, cur, hv, _, _, hnc, _⟩
    · cases hv
      rcases A with _ | a <;> simp [Builtin.append_, run_underlying ht, sizeOf, typeInfo, hi, Builtin.lenOf, Builtin.firstCells, loadCells, loadCellsFrom]
    · cases hv
      rcases A with _ | a <;> simp [Builtin.append_, run_underlying ht, sizeOf, typeInfo, hi, Builtin.lenOf, Builtin.firstCells, loadCells, loadCellsFrom, hnc, storeCells]
  · have hpos : 0 < news.length := by
      rw [hr.len]
      exact Nat.mul_pos h0 hsz
    obtain ⟨a, rfl, _⟩ := hr.some_ hpos
    obtain ⟨v', w', h2, h3, h4, _, h6⟩ := run_append_own_at (P := P) (ty := ty) w base t e i z size bytes ht hi hz hsize hby hzs hsz v n xs hown a m c news hr.len hr.cells h1 h63 hbytes hbase
    obtain ⟨A', c', rfl, h5, h7, _⟩ := own_form h3
    exact ⟨A', c', w', h2, h3, h4, h5, h7, h6⟩
theorem wpList_appG {P : Program} {w : World} {ops : Array Oper} {rest : List Oper} {o : Oper} {a : Act} {Q : Exit → Act → World → Prop} (hgd : o.guard = none) (s x : Operand) (t : TypeId)
    (ho : o.op = .call { callee := .builtin .append, args := #[s, x], argTypes := #[t, t] })
    (base : Nat) (e : TypeId) (i : TypeInfo) (z : Value) (size bytes : Nat) (ht : P.underlying t = some (.slice e)) (hi : P.info? e = some i) (hz : i.zero = some z)
    (hsize : i.size = size) (hby : i.bytes = bytes) (hzs : z.cells.size = size) (hsz : 0 < size) (hbase : base ≤ w.heap.size) (v : Value) (n : Nat) (xs : List Value) (hs : a.eval s = v) (hown : w.ownsRow base e size v n xs)
    (B : Nat) (A : Option Addr) (m c : Nat) (news : List Value) (hx : a.eval x = .slice A m c) (hr : Row B w A m size news) (h1 : ∀ u ∈ news, u.oneCell' = true)
    (N : Nat) (X : List Value) (hN : n + m = N) (hX : xs ++ news = X) (h63 : N ≤ maxLen) (hbytes : N * bytes ≤ 140737488355328)
    (h : ∀ A' c' w', w'.ownsRow base e size (.slice A' N c') N X → w.grownBy w' v.ownBlock → N ≤ c' → c' ≤ maxLen → ((Value.slice A' N c').ownBlock = v.ownBlock ∨ (Value.slice A' N c').ownBlock = some w.heap.size) → wpList P ops Q rest (a.put o.dst (.slice A' N c')) w') : wpList P ops Q (o :: rest) a w := by
  subst hN
  subst hX
  obtain ⟨A', c', w', hrun, h3, h4, h5, h7, h6⟩ := run_appG (P := P) w base t o.type e i z size bytes ht hi hz hsize hby hzs hsz v n xs hown B A m c news hr h1 h63 hbytes hbase
  refine wpList_plain hgd fun _ hK => ?_
  unfold Oper.wp execOp
  simp only [ho, resolve, invoke, builtin, Sem.run_bind, Sem.run_pure, Result.andThen_ok, List.map_toArray, List.map_cons, List.map_nil, hs, hx, hrun]
  exact hK _ _ (h A' c' w' h3 h4 h5 h7 h6)
end Go.Proofs.YthepokgkfaocmaaGreatDoor

/-
  The walks of Remove and Rename of a disk.
-/
namespace Go.Proofs.YthepokgkfaocmaaGreatDoor
open Go Go.RowKit Go.Maps

theorem info_turn : (Tryz.prog.info? 101).map (fun i => (i.zero, i.size, i.bytes)) = some (some (.agg #[.int .i64 0, .int .i64 0, .string ⟨#[]⟩, .string ⟨#[]⟩]), 4, 48) := by kernel_rfl

theorem grown_box {w3 w4 : World} {X : Dw} {S : Sd} {o : Obj} (h : DK w3 X S) (hg : ((w3.alloc o).drew).grownBy w4 X.tv.ownBlock) : BoxO w4 79 X.d (X.cells S) :=
  ((h.box.alloc o).drew).chg (Chg.of_grown (F := X.tv.ownBlock.toList) hg (fun b e => by simp [e])) (fun hm => (h.apart.tv _ (by simpa using hm)).1 rfl)
/-- A turn was appended, and the row's place in the struct was stored. -/
theorem upd_turnD {w3 w4 : World} {X : Dw} {S : Sd} {o : Obj} (h : DK w3 X S) (t : Tn) {v : Value} (hg : ((w3.alloc o).drew).grownBy w4 X.tv.ownBlock) (hown : w4.ownsRow 0 101 4 v (S.turns.length + 1) (S.turns.flatMap turnCells ++ turnCells t))
    (hob : v.ownBlock = X.tv.ownBlock ∨ v.ownBlock = some ((w3.alloc o).drew).heap.size) : DK (w4.setCell ⟨X.d, 4, none⟩ v) { X with tv := v } { S with turns := S.turns ++ [t] } ∧ Chg X.foot w3 (w4.setCell ⟨X.d, 4, none⟩ v) ∧ ∀ g ∈ ({ X with tv := v } : Dw).foot, g ∈ X.foot ∨ w3.heap.size ≤ g := by
  have hbox := grown_box h hg
  have ha := h.apart
  have hsz : ((w3.alloc o).drew).heap.size = w3.heap.size + 1 := by simp
  have hvd : ∀ g, v.ownBlock = some g → g ≠ X.d := fun g e e2 => by
    subst e2
    rcases hob with h1 | h1
    · exact (ha.tv X.d (by rw [← h1, e])).1 rfl
    · rw [e] at h1
      injection h1 with h1
      have := h.box.lt
      omega
  have hc1 : Chg X.tv.ownBlock.toList w3 w4 := ((Chg.refl _ w3).alloc o).drew.trans (Chg.of_grown (F := X.tv.ownBlock.toList) hg (fun b e => by simp [e])) (fun g hg => .inl hg)
  have hc2 : Chg ([X.d] ++ X.tv.ownBlock.toList) w3 (w4.setCell ⟨X.d, 4, none⟩ v) := (hc1.mono (fun g hg => .inl (List.mem_append_right _ hg))).setCell v (.inl (by simp))
  have hv : ∀ g, v.ownBlock = some g → X.tv.ownBlock = some g ∨ w3.heap.size ≤ g := fun g e => by
    rcases hob with h1 | h1
    · exact .inl (by rw [← h1, e])
    · rw [e] at h1
      injection h1 with h1
      exact .inr (by omega)
  have hdk := DK.setTurns (w' := w4.setCell ⟨X.d, 4, none⟩ v) (tv := v) (ts := S.turns ++ [t]) h (by
      have h1 := own_chg hown (chg_set w4 ⟨X.d, 4, none⟩ v) (fun g e hg => hvd g e (by simpa using hg))
      simpa using h1) hc2 hv (by
      have h1 := hbox.store 4 v
      exact h1)
  refine ⟨hdk, hc2.mono (fun g hg => .inl ?_), fun g hg => ?_⟩
  · rcases List.mem_append.1 hg with h1 | h1
    · rw [List.mem_singleton.1 h1]; exact mem_foot.2 (.inl rfl)
    · exact mem_foot.2 (.inr (.inr (.inr (.inr (.inl (by simpa using h1))))))
  · rcases mem_foot.1 hg with h1 | h1 | h1 | h1 | h1 | h1
    · exact .inl (mem_foot.2 (.inl h1))
    · exact .inl (mem_foot.2 (.inr (.inl h1)))
    · exact .inl (mem_foot.2 (.inr (.inr (.inl h1))))
    · exact .inl (mem_foot.2 (.inr (.inr (.inr (.inl h1)))))
    · rcases hv g h1 with h2 | h2
      · exact .inl (mem_foot.2 (.inr (.inr (.inr (.inr (.inl h2))))))
      · exact .inr h2
    · exact .inl (mem_foot.2 (.inr (.inr (.inr (.inr (.inr h1))))))
theorem upd_turn {w3 w4 : World} {X : Dw} {S : Sd} {o : Obj} (h : DK w3 X S) (t : Tn) {v : Value} (hg : ((w3.alloc o).drew).grownBy w4 X.tv.ownBlock) (hown : w4.ownsRow 0 101 4 v (S.turns.length + 1) (S.turns.flatMap turnCells ++ turnCells t))
    (hob : v.ownBlock = X.tv.ownBlock ∨ v.ownBlock = some ((w3.alloc o).drew).heap.size) : Upd X w3 (w4.setCell ⟨X.d, 4, none⟩ v) { S with turns := S.turns ++ [t] } :=
  let ⟨h1, h2, h3⟩ := upd_turnD h t hg hown hob
  ⟨{ X with tv := v }, rfl, h1, h2, h3⟩
theorem Upd.trans {X : Dw} {w w1 w2 : World} {S2 : Sd} {X1 : Dw} (e : X1.d = X.d) (c : Chg X.foot w w1) (hf : ∀ g ∈ X1.foot, g ∈ X.foot ∨ w.heap.size ≤ g) (h2 : Upd X1 w1 w2 S2) : Upd X w w2 S2 := by
  obtain ⟨X', e', h, c', hf'⟩ := h2
  refine ⟨X', e'.trans e, h, c.trans c' (fun g hg => hf g hg), fun g hg => ?_⟩
  rcases hf' g hg with h3 | h3
  · exact hf g h3
  · exact .inr (Nat.le_trans c.size h3)

set_option maxRecDepth 100000 in
set_option maxHeartbeats 1000000 in
theorem remove_any (X : Dw) (S : Sd) (s : ByteArray) (hs : s.size ≤ maxLen) (hw : S.Wf) (hl : S.load ≤ 1099511627776) (w : World) (h : DK w X S) :
    Calls Tryz.prog 16 #[.pointer (some ⟨X.d, 0, none⟩), .string s] w fun e w' => e = .returned (.int .i64 ((S.remove s.data.toList).2 : Int)) ∧ Upd X w w' (S.remove s.data.toList).1 := by
  have hcall := call1 X S s hs hw w h
  have hw1 := hw.call [s.data.toList]
  have hld := Sd.call_load S [s.data.toList]
  obtain ⟨e1, e2, e3, e4, e5, _, _⟩ := Sd.call_same S [s.data.toList]
  have hsy : S.remove s.data.toList = if (S.call [s.data.toList]).2 ≠ 0 then S.call [s.data.toList] else if (S.names.get s.data.toList).isNone then ((S.call [s.data.toList]).1, 11)
    else ({ (S.call [s.data.toList]).1 with names := Tn.go ⟨3, 0, s.data.toList, []⟩ S.names, turns := S.turns ++ [⟨3, 0, s.data.toList, []⟩] }, 0) := rfl
  generalize S.call [s.data.toList] = R at *
  obtain ⟨S1, er⟩ := R
  simp only at *
  by_cases h0 : er = 0
  · subst h0
    rw [if_neg (by simp)] at hsy
    have hfd := fun w1 h1 => find_any X S1 s hs w1 h1 hw1.names
    cases h3 : S.names.get s.data.toList with
    | none =>
      simp only [h3, Option.isNone_none, if_true] at hsy
      rw [hsy]
      simp only [e1, h3] at hfd
      clear hsy h3 e1 e2 e3 e4 e5 hw1 hw h hld
      go_enter Tryz.func16, Tryz.ntmps16
      go_wp2_with fail
      refine hcall.mono ?_
      rintro e w1 ⟨rfl, h1, hc1⟩
      go_wp2_with fail
      refine (hfd w1 h1).mono ?_
      rintro e w2 ⟨rfl, rfl⟩
      go_wp2
      go_ret
      exact ⟨rfl, Upd.called h1 hc1⟩
    | some i =>
      simp only [h3, Option.isNone_some, Bool.false_eq_true, if_false] at hsy
      rw [hsy, ← e1, ← e4]
      simp only [e1, h3] at hfd
      have hml : S1.turns.length + 1 ≤ 1099511627777 := by unfold Sd.load at hld hl; omega
      clear hsy h3 e1 e2 e3 e4 e5 hw h hld
      go_enter Tryz.func16, Tryz.ntmps16
      go_wp2_with fail
      refine hcall.mono ?_
      rintro e w1 ⟨rfl, h1, hc1⟩
      go_wp2_with fail
      refine (hfd w1 h1).mono ?_
      rintro e w2 ⟨rfl, rfl⟩
      unfold ptrV
      go_wp2
      have hbV : Below w1.heap.size w1 (w1.alloc (.cells #[.int .i64 3, .int .i64 0, .string s, .string ⟨#[]⟩] 101)) := (Below.refl _ _).alloc (Nat.le_refl _) _
      have hbox := BoxO.new w1 #[.int .i64 3, .int .i64 0, .string s, .string ⟨#[]⟩] 101
      have hlt : w1.heap.size < (w1.alloc (.cells #[.int .i64 3, .int .i64 0, .string s, .string ⟨#[]⟩] 101)).heap.size := by simp
      have h2 := h1.below hbV
      have hup0 := Chg.of_below hbV X.foot
      generalize w1.alloc (.cells #[.int .i64 3, .int .i64 0, .string s, .string ⟨#[]⟩] 101) = V at *
      have c0 := hbox.cell 0
      have c1 := hbox.cell 1
      have c2 := hbox.cell 2
      have c3 := hbox.cell 3
      have d2 := h2.box.cell 2
      simp only [Dw.cells, List.getElem?_cons_zero, List.getElem?_cons_succ] at c0 c1 c2 c3 d2
      have htb := h1.lt
      have hnamed := Lib.hid h2.names
      have hsm : S1.names.length < maxLen := by have := hw1.most; unfold maxLen; omega
      generalize w1.heap.size = tb at *
      go_still_tail 5, (by kernel_rfl)
      change wpList _ _ _ _ _ (World.drew V)
      go_wp2_with fail
      have hdo := do_any 3 0 s.data.toList [] (by simpa using hs) (by simp) (by omega) X.nb S1.names.length S1.names V.drew hnamed.out.drew hsm (by omega)
      simp only [turnV, str_list] at hdo
      refine hdo.mono ?_
      rintro e w3 ⟨rfl, hn3, hc3⟩
      have hc3' : Chg [X.nb] V w3 := (Chg.refl [X.nb] V).drew.trans hc3 (fun g hg => .inl hg)
      have h3 := h2.setNames hn3 hc3'
      have hbox3 := hbox.chg hc3' (by simp; have := htb X.nb (mem_foot.2 (.inr (.inl rfl))); omega)
      have c0 := hbox3.cell 0
      have c1 := hbox3.cell 1
      have c2 := hbox3.cell 2
      have c3 := hbox3.cell 3
      have d4 := h3.box.cell 4
      have f4 := h3.box.free 4
      have hxd := h3.box.lt
      obtain ⟨tA, tc, htv, _, _, _⟩ := own_form h3.turns
      simp only [Dw.cells, List.getElem?_cons_zero, List.getElem?_cons_succ] at c0 c1 c2 c3 d4
      rw [htv] at d4
      clear d2 hnamed hdo hn3
      have hrow4 := own_base h3.turns (Nat.zero_le _)
      rw [htv] at hrow4
      have hpre := fun (o : Obj) (w4 : World) (hg : ((w3.alloc o).drew).grownBy w4 (Value.slice tA S1.turns.length tc).ownBlock) => (⟨(grown_box h3 (by rw [htv]; exact hg)).cell 4, (grown_box h3 (by rw [htv]; exact hg)).free 4⟩ : w4.cell? ⟨X.d, 4, none⟩ = _ ∧ w4.frozen? ⟨X.d, 4, none⟩ = false)
      have hpost := fun (o : Obj) (w4 : World) (v : Value) (hg : ((w3.alloc o).drew).grownBy w4 (Value.slice tA S1.turns.length tc).ownBlock) hown hob => upd_turn (o := o) (w4 := w4) (v := v) h3 ⟨3, 0, s.data.toList, []⟩ (by rw [htv]; exact hg) hown (by rw [htv]; exact hob)
      simp only [turnCells, str_list] at hpost
      have HPO := Lib.hid hpost
      have HPR := Lib.hid hpre
      have htr := fun (w5 : World) (S5 : Sd) (h : Upd X w3 w5 S5) => Upd.after hc1 (Upd.trans rfl (hup0.trans (hc3'.mono (fun g hg => .inl (by rw [List.mem_singleton.1 hg]; exact mem_foot.2 (.inr (.inl rfl))) : ∀ g ∈ [X.nb], g ∈ X.foot ∨ _)) (fun g hg => .inl hg)) (fun g hg => .inl hg) h)
      have HTR := Lib.hid htr
      clear hpost hpre htr
      obtain ⟨i0, hi0, hz0, hz1, hz2⟩ := info_parts info_turn
      go_wp2
      go_region_law (refine step_appF rfl (.tmp 30) (.tmp 32) _ rfl 0 101 i0 _ 4 48 Tryz.underlying72 hi0 hz0 hz1 hz2 rfl (by omega) (Nat.zero_le _) (.slice tA S1.turns.length tc) S1.turns.length _ rfl (hrow4.alloc _).drew _ (some ⟨w3.heap.size, 0, none⟩) 1 1 (by omega) [.int .i64 3, .int .i64 0, .string s, .string ⟨#[]⟩] rfl (Row.new w3 #[.int .i64 3, .int .i64 0, .string s, .string ⟨#[]⟩] 101 (n := 1) (size := 4) rfl).drew (by simp [Value.oneCell']) (S1.turns.length + 1) _ rfl rfl (by unfold maxLen; omega) (by omega) ?_; intro A4 c4 w4 hown4 hg4 _ _ hob4; obtain ⟨q4, q5⟩ := HPR.out _ _ hg4; have HO := Lib.hid (HTR.out _ _ (HPO.out _ _ _ hg4 hown4 hob4)); clear hg4 hown4 hob4; simp only [Dw.cells, List.getElem?_cons_zero, List.getElem?_cons_succ] at q4)
      all_goals
        go_wp2
        go_ret
        exact ⟨rfl, HO.out⟩
  · have hne := neq0 h0
    rw [if_pos h0] at hsy
    rw [hsy]
    clear hsy e1 e2 e3 e4 e5 h0 hld
    go_enter Tryz.func16, Tryz.ntmps16
    go_wp2_with fail
    refine hcall.mono ?_
    rintro e w1 ⟨rfl, h1, hc1⟩
    go_wp2
    go_ret
    exact ⟨rfl, Upd.called h1 hc1⟩
end Go.Proofs.YthepokgkfaocmaaGreatDoor

/-
  The walk of Rename of a disk.
-/
namespace Go.Proofs.YthepokgkfaocmaaGreatDoor
open Go Go.RowKit Go.Maps

theorem call2 (X : Dw) (S : Sd) (s u : ByteArray) (hs : s.size ≤ maxLen) (hu : u.size ≤ maxLen) (hw : S.Wf) (w : World) (h : DK w X S) :
    Calls Tryz.prog 47 #[.pointer (some ⟨X.d, 0, none⟩), .slice (some ⟨w.heap.size, 0, none⟩) 2 2] (w.alloc (.cells #[.string s, .string u] 9)) fun e w' => e = .returned (.int .i64 ((S.call [s.data.toList, u.data.toList]).2 : Int)) ∧ DK w' X (S.call [s.data.toList, u.data.toList]).1 ∧ Chg [X.d] w w' := by
  have hb : Below w.heap.size w (w.alloc (.cells #[.string s, .string u] 9)) := (Below.refl _ _).alloc (Nat.le_refl _) _
  refine (call_any X S (some ⟨w.heap.size, 0, none⟩) 2 2 [s, u] (by omega) (by simp; exact ⟨hs, hu⟩) hw.stop hw.fail _ (h.below hb) ?_).mono ?_
  · exact (Row.new w #[.string s, .string u] 9 (n := 2) (size := 1) rfl).up (by simp)
  · rintro e w' ⟨rfl, h1, h2⟩
    exact ⟨rfl, h1, (Chg.of_below hb [X.d]).trans h2 (fun g hg => .inl hg)⟩

set_option maxRecDepth 100000 in
set_option maxHeartbeats 1000000 in
theorem rename_any (X : Dw) (S : Sd) (s u : ByteArray) (hs : s.size ≤ maxLen) (hu : u.size ≤ maxLen) (hw : S.Wf) (hl : S.load ≤ 1099511627776) (w : World) (h : DK w X S) :
    Calls Tryz.prog 71 #[.pointer (some ⟨X.d, 0, none⟩), .string s, .string u] w fun e w' => e = .returned (.int .i64 ((S.rename s.data.toList u.data.toList).2 : Int)) ∧ Upd X w w' (S.rename s.data.toList u.data.toList).1 := by
  have hcall := call2 X S s u hs hu hw w h
  have hw1 := hw.call [s.data.toList, u.data.toList]
  have hld := Sd.call_load S [s.data.toList, u.data.toList]
  obtain ⟨e1, e2, e3, e4, e5, _, _⟩ := Sd.call_same S [s.data.toList, u.data.toList]
  have hsy : S.rename s.data.toList u.data.toList = if (S.call [s.data.toList, u.data.toList]).2 ≠ 0 then S.call [s.data.toList, u.data.toList] else if (S.names.get s.data.toList).isNone then ((S.call [s.data.toList, u.data.toList]).1, 11)
    else if s.data.toList = u.data.toList then ((S.call [s.data.toList, u.data.toList]).1, 0)
    else ({ (S.call [s.data.toList, u.data.toList]).1 with names := Tn.go ⟨2, 0, s.data.toList, u.data.toList⟩ S.names, turns := S.turns ++ [⟨2, 0, s.data.toList, u.data.toList⟩] }, 0) := rfl
  generalize S.call [s.data.toList, u.data.toList] = R at *
  obtain ⟨S1, er⟩ := R
  simp only at *
  by_cases h0 : er = 0
  · subst h0
    rw [if_neg (by simp)] at hsy
    have hfd := fun w1 h1 => find_any X S1 s hs w1 h1 hw1.names
    cases h3 : S.names.get s.data.toList with
    | none =>
      simp only [h3, Option.isNone_none, if_true] at hsy
      rw [hsy]
      simp only [e1, h3] at hfd
      clear hsy h3 e1 e2 e3 e4 e5 hw1 hw h hld
      go_enter Tryz.func71, Tryz.ntmps71
      go_wp2_with fail
      refine hcall.mono ?_
      rintro e w1 ⟨rfl, h1, hc1⟩
      go_wp2_with fail
      refine (hfd w1 h1).mono ?_
      rintro e w2 ⟨rfl, rfl⟩
      go_wp2
      go_ret
      exact ⟨rfl, Upd.called h1 hc1⟩
    | some i =>
      simp only [h3, Option.isNone_some, Bool.false_eq_true, if_false] at hsy
      by_cases hab : s = u
      · subst hab
        rw [if_pos rfl] at hsy
        rw [hsy]
        simp only [e1, h3] at hfd
        clear hsy h3 e1 e2 e3 e4 e5 hw1 hw h hld
        go_enter Tryz.func71, Tryz.ntmps71
        go_wp2_with fail
        refine hcall.mono ?_
        rintro e w1 ⟨rfl, h1, hc1⟩
        go_wp2_with fail
        refine (hfd w1 h1).mono ?_
        rintro e w2 ⟨rfl, rfl⟩
        unfold ptrV
        go_wp2
        go_ret
        exact ⟨rfl, Upd.called h1 hc1⟩
      have hab' : ¬s.data.toList = u.data.toList := fun e => hab (by rw [← str_list s, e, str_list])
      rw [if_neg hab'] at hsy
      have hbeq : (s.toList == u.toList) = false := by
        rw [ByteArray.toList_eq, ByteArray.toList_eq]
        simpa using hab'
      clear hab hab'
      rw [hsy, ← e1, ← e4]
      simp only [e1, h3] at hfd
      have hml : S1.turns.length + 1 ≤ 1099511627777 := by unfold Sd.load at hld hl; omega
      clear hsy h3 e1 e2 e3 e4 e5 hw h hld
      go_enter Tryz.func71, Tryz.ntmps71
      go_wp2_with fail
      refine hcall.mono ?_
      rintro e w1 ⟨rfl, h1, hc1⟩
      go_wp2_with fail
      refine (hfd w1 h1).mono ?_
      rintro e w2 ⟨rfl, rfl⟩
      unfold ptrV
      go_wp2
      have hbV : Below w1.heap.size w1 (w1.alloc (.cells #[.int .i64 2, .int .i64 0, .string s, .string u] 101)) := (Below.refl _ _).alloc (Nat.le_refl _) _
      have hbox := BoxO.new w1 #[.int .i64 2, .int .i64 0, .string s, .string u] 101
      have hlt : w1.heap.size < (w1.alloc (.cells #[.int .i64 2, .int .i64 0, .string s, .string u] 101)).heap.size := by simp
      have h2 := h1.below hbV
      have hup0 := Chg.of_below hbV X.foot
      generalize w1.alloc (.cells #[.int .i64 2, .int .i64 0, .string s, .string u] 101) = V at *
      have c0 := hbox.cell 0
      have c1 := hbox.cell 1
      have c2 := hbox.cell 2
      have c3 := hbox.cell 3
      have d2 := h2.box.cell 2
      simp only [Dw.cells, List.getElem?_cons_zero, List.getElem?_cons_succ] at c0 c1 c2 c3 d2
      have htb := h1.lt
      have hnamed := Lib.hid h2.names
      have hsm : S1.names.length < maxLen := by have := hw1.most; unfold maxLen; omega
      generalize w1.heap.size = tb at *
      go_still_tail 5, (by kernel_rfl)
      change wpList _ _ _ _ _ (World.drew V)
      go_wp2_with fail
      have hdo := do_any 2 0 s.data.toList u.data.toList (by simpa using hs) (by simpa using hu) (by omega) X.nb S1.names.length S1.names V.drew hnamed.out.drew hsm (by omega)
      simp only [turnV, str_list] at hdo
      refine hdo.mono ?_
      rintro e w3 ⟨rfl, hn3, hc3⟩
      have hc3' : Chg [X.nb] V w3 := (Chg.refl [X.nb] V).drew.trans hc3 (fun g hg => .inl hg)
      have h3 := h2.setNames hn3 hc3'
      have hbox3 := hbox.chg hc3' (by simp; have := htb X.nb (mem_foot.2 (.inr (.inl rfl))); omega)
      have c0 := hbox3.cell 0
      have c1 := hbox3.cell 1
      have c2 := hbox3.cell 2
      have c3 := hbox3.cell 3
      have d4 := h3.box.cell 4
      have f4 := h3.box.free 4
      have hxd := h3.box.lt
      obtain ⟨tA, tc, htv, _, _, _⟩ := own_form h3.turns
      simp only [Dw.cells, List.getElem?_cons_zero, List.getElem?_cons_succ] at c0 c1 c2 c3 d4
      rw [htv] at d4
      clear d2 hnamed hdo hn3
      have hrow4 := own_base h3.turns (Nat.zero_le _)
      rw [htv] at hrow4
      have hpre := fun (o : Obj) (w4 : World) (hg : ((w3.alloc o).drew).grownBy w4 (Value.slice tA S1.turns.length tc).ownBlock) => (⟨(grown_box h3 (by rw [htv]; exact hg)).cell 4, (grown_box h3 (by rw [htv]; exact hg)).free 4⟩ : w4.cell? ⟨X.d, 4, none⟩ = _ ∧ w4.frozen? ⟨X.d, 4, none⟩ = false)
      have hpost := fun (o : Obj) (w4 : World) (v : Value) (hg : ((w3.alloc o).drew).grownBy w4 (Value.slice tA S1.turns.length tc).ownBlock) hown hob => upd_turn (o := o) (w4 := w4) (v := v) h3 ⟨2, 0, s.data.toList, u.data.toList⟩ (by rw [htv]; exact hg) hown (by rw [htv]; exact hob)
      simp only [turnCells, str_list] at hpost
      have HPO := Lib.hid hpost
      have HPR := Lib.hid hpre
      have htr := fun (w5 : World) (S5 : Sd) (h : Upd X w3 w5 S5) => Upd.after hc1 (Upd.trans rfl (hup0.trans (hc3'.mono (fun g hg => .inl (by rw [List.mem_singleton.1 hg]; exact mem_foot.2 (.inr (.inl rfl))) : ∀ g ∈ [X.nb], g ∈ X.foot ∨ _)) (fun g hg => .inl hg)) (fun g hg => .inl hg) h)
      have HTR := Lib.hid htr
      clear hpost hpre htr
      obtain ⟨i0, hi0, hz0, hz1, hz2⟩ := info_parts info_turn
      go_wp2
      go_region_law (refine step_appF rfl (.tmp 39) (.tmp 41) _ rfl 0 101 i0 _ 4 48 Tryz.underlying72 hi0 hz0 hz1 hz2 rfl (by omega) (Nat.zero_le _) (.slice tA S1.turns.length tc) S1.turns.length _ rfl (hrow4.alloc _).drew _ (some ⟨w3.heap.size, 0, none⟩) 1 1 (by omega) [.int .i64 2, .int .i64 0, .string s, .string u] rfl (Row.new w3 #[.int .i64 2, .int .i64 0, .string s, .string u] 101 (n := 1) (size := 4) rfl).drew (by simp [Value.oneCell']) (S1.turns.length + 1) _ rfl rfl (by unfold maxLen; omega) (by omega) ?_; intro A4 c4 w4 hown4 hg4 _ _ hob4; obtain ⟨q4, q5⟩ := HPR.out _ _ hg4; have HO := Lib.hid (HTR.out _ _ (HPO.out _ _ _ hg4 hown4 hob4)); clear hg4 hown4 hob4; simp only [Dw.cells, List.getElem?_cons_zero, List.getElem?_cons_succ] at q4)
      all_goals
        go_wp2
        go_ret
        exact ⟨rfl, HO.out⟩
  · have hne := neq0 h0
    rw [if_pos h0] at hsy
    rw [hsy]
    clear hsy e1 e2 e3 e4 e5 h0 hld
    go_enter Tryz.func71, Tryz.ntmps71
    go_wp2_with fail
    refine hcall.mono ?_
    rintro e w1 ⟨rfl, h1, hc1⟩
    go_wp2
    go_ret
    exact ⟨rfl, Upd.called h1 hc1⟩
end Go.Proofs.YthepokgkfaocmaaGreatDoor
