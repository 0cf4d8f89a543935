/- Texts Unlist, ItemM, ItemN, Step, DiskF, DiskG, DiskH, StepB, DiskI, ManB in one. No conditions. -/
import Derived.Test.YtdkjoigpahafmaaGreatDoorBunAA
import Derived.Test.YtdkjoigpahafmaaGreatDoorBunAF
import Derived.Test.YtdkjoigpahafmaaGreatDoorBunAD
import Derived.Test.YtdkjoigpahafmaaGreatDoorBunAI
import Derived.Deep.RegionLaw
import Derived.Test.YtdkjoigpahafmaaGreatDoorBunAC
import Derived.StillTailTactics
import Derived.Deep.RegionWith

set_option linter.unusedSimpArgs false
set_option linter.unusedVariables false
set_option maxRecDepth 100000
set_option maxHeartbeats 16000000
namespace Go.Proofs.YtdkjoigpahafmaaGreatDoor
section
open Go Go.RowKit
namespace Pn
theorem takeF_size : ∀ (l : List UInt8) (i acc : Nat), (takeF i acc l).2.2 = 0 → (takeF i acc l).2.1 ≤ i + l.length
 | [], i, acc, h => by simp [takeF] at h
 | c :: r, i, acc, h => by
  unfold takeF at h ⊢
  split
  ·rw [if_pos (by assumption)] at h; simp at h
  ·rw [if_neg (by assumption)] at h
   split
   ·simp
   ·rw [if_neg (by assumption)] at h
    have := takeF_size r (i + 1) _ h
    simp only [List.length_cons]
    omega
theorem take_size {l : List UInt8} (h : (take l).2.2 = 0) : (take l).2.1 ≤ l.length := by
 have := takeF_size l 0 0 h
 unfold take
 omega
end Pn
theorem row_from {B N : Nat} {w : World} {A : Option Addr} {l : List UInt8} (hr : Row B w A N 1 (bts l)) {s : Nat} (hs : s ≤ N) {A' : Option Addr} (hA : s < N → A' = A.map (·.add s)) : Row B w A' (N - s) 1 (bts (l.drop s)) := by
 have h := hr.cut (A' := A') hs (Nat.le_refl N) (fun hlt => by rw [Nat.mul_one]; exact hA hlt)
 rw [Nat.mul_one, Nat.mul_one, ← bts_drop, ← bts_take] at h
 rwa [List.take_of_length_le (by have := hr.btlen; rw [List.length_drop]; omega)] at h
theorem rtake_gen (B R : Nat) (hB : B ≤ R) (A : Option Addr) (N c : Nat) (l : List UInt8) (ok : Bool) (most : Nat) (w : World) (hN : N ≤ 1000000000) (hNc : N ≤ c) (_hm : most < 18446744073709551616)
  (hR : BoxO w 311 R [.slice A N c, .bool ok]) (hr : Row B w A N 1 (bts l)) :
  Calls Tryz.prog 235 #[.pointer (some ⟨R, 0, none⟩), .int .u64 (most : Int)] w fun e w' => ∃ A' N' c', e = .returned (.int .u64 ((Rd.take most (l, ok)).1 : Int)) ∧ N' ≤ c' ∧ N' ≤ N ∧ Row B w' A' N' 1 (bts (Rd.take most (l, ok)).2.1) ∧ BoxO w' 311 R [.slice A' N' c', .bool (Rd.take most (l, ok)).2.2] ∧ Chg [R] w w' := by
 have h0 := hR.cell 0
 have h1 := hR.cell 1
 have hf := hR.free 0
 have hf1 := hR.free 1
 have ht := take_any A N c l w (by omega) (hr.up (Nat.le_trans hB (Nat.le_of_lt hR.lt)))
 have hts := Pn.take_size (l := l)
 have hln := hr.btlen
 have hrt : Rd.take most (l, ok) = if ok = true ∧ (Pn.take l).2.2 = 0 ∧ (Pn.take l).1 ≤ most then ((Pn.take l).1, (l.drop (Pn.take l).2.1, true)) else (0, (l, false)) := rfl
 obtain ⟨T, hT⟩ : ∃ T, T = Rd.take most (l, ok) := ⟨_, rfl⟩
 rw [← hT] at hrt ⊢
 generalize Pn.take l = p at *
 obtain ⟨n, s, er⟩ := p
 simp only [gE0, gE1] at h0 h1 ht hts hrt
 clear hT
 have HRT := Lib.hid hrt
 clear hrt
 have bad : ∀ (W : World), (ok = true ∧ er = 0 ∧ n ≤ most → False) → W = w.setCell ⟨R, 1, none⟩ (.bool false) → ∃ A' N' c', Ending.returned (.int .u64 0) = .returned (.int .u64 (T.1 : Int)) ∧ N' ≤ c' ∧ N' ≤ N ∧ Row B W A' N' 1 (bts T.2.1) ∧ BoxO W 311 R [.slice A' N' c', .bool T.2.2] ∧ Chg [R] w W := by
  intro W h hW
  rw [HRT.out, if_neg h, hW]
  exact ⟨A, N, c, rfl, hNc, Nat.le_refl _, hr.setCell hB _, hR.store 1 _, chg_set w ⟨R, 1, none⟩ _⟩
 have BAD := Lib.hid bad
 clear bad
 cases ok with
 | false =>
  clear hts hln
  go_enter Tryz.func235, Tryz.ntmps235
  go_wp2_with fail
  refine ht.mono ?_
  rintro e w1 ⟨rfl, rfl⟩
  clear ht
  go_wp2
  go_ret
  exact BAD.out _ (fun h => by cases h.1) rfl
 | true =>
  by_cases he : er = 0
  ·by_cases hn : n ≤ most
   ·subst he
    have hsl := hts rfl
    obtain ⟨A', hA'⟩ : ∃ A', (if c = s then A else Option.map (fun x => x.add s) A) = A' := ⟨_, rfl⟩
    have hrow := row_from hr (s := s) (A' := A') (by omega) (fun hlt => by rw [← hA', if_neg (by omega)])
    have hn' : ((most : Int) < (n : Int)) = False := by simp; omega
    have hsN : s ≤ N := by omega
    have hscc : s ≤ c := by omega
    have hres : T = (n, (l.drop s, true)) := by rw [HRT.out, if_pos ⟨rfl, rfl, hn⟩]
    have HRES := Lib.hid hres
    clear hts hln hres BAD HRT
    go_enter Tryz.func235, Tryz.ntmps235
    go_wp2_with fail
    refine ht.mono ?_
    rintro e w1 ⟨rfl, rfl⟩
    clear ht
    go_wp2
    go_ret
    rw [HRES.out]
    exact ⟨A', N - s, c - s, rfl, by omega, by omega, hrow.setCell hB _, hR.store 0 _, chg_set w ⟨R, 0, none⟩ _⟩
   ·subst he
    have hn' : (most : Int) < (n : Int) := by omega
    clear hts hln
    go_enter Tryz.func235, Tryz.ntmps235
    go_wp2_with fail
    refine ht.mono ?_
    rintro e w1 ⟨rfl, rfl⟩
    clear ht
    go_wp2
    go_ret
    exact BAD.out _ (fun h => hn h.2.2) rfl
  ·have he3 : ((er : Int) == 0) = false := by simp; omega
   have he4 : ¬ (er : Int) = 0 := by omega
   clear hts hln
   go_enter Tryz.func235, Tryz.ntmps235
   go_wp2_with fail
   refine ht.mono ?_
   rintro e w1 ⟨rfl, rfl⟩
   clear ht
   go_wp2
   go_ret
   exact BAD.out _ (fun h => he h.2.1) rfl
end
section
open Go Go.RowKit Go.Lib
def a3 (ns : List Nat) : List Value := [.int .u64 (ns.getD 0 0 : Nat), .int .u64 (ns.getD 1 0 : Nat), .int .u64 (ns.getD 2 0 : Nat)]
end
section
open Go Go.RowKit Go.Lib
theorem Its.nil (B : Nat) (w : World) : Its B w none 0 0 [] := ⟨⟨rfl, fun j hj => by simp [itc] at hj⟩, Nat.le_refl _, by unfold maxLen; omega, fun a ha => by cases ha⟩
end
section
open Go Go.RowKit
theorem step_appF {P : Program} {ops : Array Oper} {o : Oper} {a : Act} {w : World} {K : Act → World → Prop} {Q : Exit → Act → World → Prop} {E : Prop} (hgd : o.guard = none) (s x : Operand) (t : TypeId)
  (ho : o.op = .call { callee := .builtin .append, args := #[s, x], argTypes := #[t, t] })
  (base : Nat) (e : TypeId) (i : TypeInfo) (z : Value) (size bytes : Nat) (ht : P.underlying t = some (.slice e)) (hi : P.info? e = some i) (hz : i.zero = some z)
  (hsize : i.size = size) (hby : i.bytes = bytes) (hzs : z.cells.size = size) (hsz : 0 < size) (hbase : base ≤ w.heap.size) (v : Value) (n : Nat) (xs : List Value) (hs : a.eval s = v) (hown : w.ownsRow base e size v n xs)
  (B : Nat) (A : Option Addr) (m c : Nat) (hm : 0 < m) (news : List Value) (hx : a.eval x = .slice A m c) (hr : Row B w A m size news) (h1 : ∀ u ∈ news, u.oneCell' = true)
  (N : Nat) (X : List Value) (hN : n + m = N) (hX : xs ++ news = X) (h63 : N ≤ maxLen) (hbytes : N * bytes ≤ 140737488355328)
  (h : ∀ A' c' w', w'.ownsRow base e size (.slice A' N c') N X → w.grownBy w' v.ownBlock → N ≤ c' → c' ≤ maxLen → ((Value.slice A' N c').ownBlock = v.ownBlock ∨ (Value.slice A' N c').ownBlock = some w.heap.size) → K (a.put o.dst (.slice A' N c')) w') :
  if Region.wanted o (yielded ops a.tmps) = true then Oper.wp P o a w K Q else E := by
 have hw : Region.wanted o (yielded ops a.tmps) = true := by simp [Region.wanted, hgd]
 rw [if_pos hw]
 subst hN
 subst hX
 have hpos : 0 < news.length := by
  rw [hr.len]
  exact Nat.mul_pos hm hsz
 obtain ⟨a', rfl, _⟩ := hr.some_ hpos
 obtain ⟨v', w', hrun, h3, h4, _, h6⟩ := run_append_own_at (P := P) (ty := o.type) w base t e i z size bytes ht hi hz hsize hby hzs hsz v n xs hown a' m c news hr.len hr.cells h1 h63 hbytes hbase
 obtain ⟨A', c', rfl, h5, h7, _⟩ := own_form h3
 unfold Oper.wp execOp
 simp only [ho, resolve, invoke, builtin, Sem.run_bind, Sem.run_pure, Result.andThen_ok, List.map_toArray, List.map_cons, List.map_nil, hs, hx, hrun]
 exact h A' c' w' h3 h4 h5 h7 h6
end
section
open Go Go.RowKit Go.Maps
theorem info_turn : (Tryz.prog.info? 125).map (fun i => (i.zero, i.size, i.bytes)) = some (some (.agg #[.int .i64 0, .int .i64 0, .string ⟨#[]⟩, .string ⟨#[]⟩]), 4, 48) := by kernel_rfl
theorem grown_box {w3 w4 : World} {X : Dw} {S : Sd} {o : Obj} (h : DK w3 X S) (hg : ((w3.alloc o).drew).grownBy w4 X.tv.ownBlock) : BoxO w4 105 X.d (X.cells S) :=
 ((h.box.alloc o).drew).chg (Chg.of_grown (F := X.tv.ownBlock.toList) hg (fun b e => by simp [e])) (fun hm => (h.apart.tv _ (by simpa using hm)).1 rfl)
theorem upd_turnD {w3 w4 : World} {X : Dw} {S : Sd} {o : Obj} (h : DK w3 X S) (t : Tn) {v : Value} (hg : ((w3.alloc o).drew).grownBy w4 X.tv.ownBlock) (hown : w4.ownsRow 0 125 4 v (S.turns.length + 1) (S.turns.flatMap turnCells ++ turnCells t))
  (hob : v.ownBlock = X.tv.ownBlock ∨ v.ownBlock = some ((w3.alloc o).drew).heap.size) : DK (w4.setCell ⟨X.d, 4, none⟩ v) { X with tv := v } { S with turns := S.turns ++ [t] } ∧ Chg X.foot w3 (w4.setCell ⟨X.d, 4, none⟩ v) ∧ ∀ g ∈ ({ X with tv := v } : Dw).foot, g ∈ X.foot ∨ w3.heap.size ≤ g := by
 have hbox := grown_box h hg
 have ha := h.apart
 have hsz : ((w3.alloc o).drew).heap.size = w3.heap.size + 1 := by simp
 have hvd : ∀ g, v.ownBlock = some g → g ≠ X.d := fun g e e2 => by
  subst e2
  rcases hob with h1 | h1
  ·exact (ha.tv X.d (by rw [← h1, e])).1 rfl
  ·rw [e] at h1
   injection h1 with h1
   have := h.box.lt
   omega
 have hc1 : Chg X.tv.ownBlock.toList w3 w4 := ((Chg.refl _ w3).alloc o).drew.trans (Chg.of_grown (F := X.tv.ownBlock.toList) hg (fun b e => by simp [e])) (fun g hg => .inl hg)
 have hc2 : Chg ([X.d] ++ X.tv.ownBlock.toList) w3 (w4.setCell ⟨X.d, 4, none⟩ v) := (hc1.mono (fun g hg => .inl (List.mem_append_right _ hg))).setCell v (.inl (by simp))
 have hv : ∀ g, v.ownBlock = some g → X.tv.ownBlock = some g ∨ w3.heap.size ≤ g := fun g e => by
  rcases hob with h1 | h1
  ·exact .inl (by rw [← h1, e])
  ·rw [e] at h1
   injection h1 with h1
   exact .inr (by omega)
 have hdk := DK.setTurns (w' := w4.setCell ⟨X.d, 4, none⟩ v) (tv := v) (ts := S.turns ++ [t]) h (by
   have h1 := own_chg hown (chg_set w4 ⟨X.d, 4, none⟩ v) (fun g e hg => hvd g e (by simpa using hg))
   simpa using h1) hc2 hv (by
   have h1 := hbox.store 4 v
   exact h1)
 refine ⟨hdk, hc2.mono (fun g hg => .inl ?_), fun g hg => ?_⟩
 ·rcases List.mem_append.1 hg with h1 | h1
  ·rw [List.mem_singleton.1 h1]; exact mem_foot.2 (.inl rfl)
  ·exact mem_foot.2 (.inr (.inr (.inr (.inr (.inl (by simpa using h1))))))
 ·rcases mem_foot.1 hg with h1 | h1 | h1 | h1 | h1 | h1
  ·exact .inl (mem_foot.2 (.inl h1))
  ·exact .inl (mem_foot.2 (.inr (.inl h1)))
  ·exact .inl (mem_foot.2 (.inr (.inr (.inl h1))))
  ·exact .inl (mem_foot.2 (.inr (.inr (.inr (.inl h1)))))
  ·rcases hv g h1 with h2 | h2
   ·exact .inl (mem_foot.2 (.inr (.inr (.inr (.inr (.inl h2))))))
   ·exact .inr h2
  ·exact .inl (mem_foot.2 (.inr (.inr (.inr (.inr (.inr h1))))))
theorem upd_turn {w3 w4 : World} {X : Dw} {S : Sd} {o : Obj} (h : DK w3 X S) (t : Tn) {v : Value} (hg : ((w3.alloc o).drew).grownBy w4 X.tv.ownBlock) (hown : w4.ownsRow 0 125 4 v (S.turns.length + 1) (S.turns.flatMap turnCells ++ turnCells t))
  (hob : v.ownBlock = X.tv.ownBlock ∨ v.ownBlock = some ((w3.alloc o).drew).heap.size) : Upd X w3 (w4.setCell ⟨X.d, 4, none⟩ v) { S with turns := S.turns ++ [t] } :=
 let ⟨h1, h2, h3⟩ := upd_turnD h t hg hown hob
 ⟨{ X with tv := v }, rfl, h1, h2, h3⟩
theorem Upd.trans {X : Dw} {w w1 w2 : World} {S2 : Sd} {X1 : Dw} (e : X1.d = X.d) (c : Chg X.foot w w1) (hf : ∀ g ∈ X1.foot, g ∈ X.foot ∨ w.heap.size ≤ g) (h2 : Upd X1 w1 w2 S2) : Upd X w w2 S2 := by
 obtain ⟨X', e', h, c', hf'⟩ := h2
 refine ⟨X', e'.trans e, h, c.trans c' (fun g hg => hf g hg), fun g hg => ?_⟩
 rcases hf' g hg with h3 | h3
 ·exact hf g h3
 ·exact .inr (Nat.le_trans c.size h3)
theorem remove_any (X : Dw) (S : Sd) (s : ByteArray) (hs : s.size ≤ maxLen) (hw : S.Wf) (hl : S.load ≤ 1099511627776) (w : World) (h : DK w X S) :
  Calls Tryz.prog 100 #[.pointer (some ⟨X.d, 0, none⟩), .string s] w fun e w' => e = .returned (.int .i64 ((S.remove s.data.toList).2 : Int)) ∧ Upd X w w' (S.remove s.data.toList).1 := by
 have hcall := call1 X S s hs hw w h
 have hw1 := hw.call [s.data.toList]
 have hld := Sd.call_load S [s.data.toList]
 obtain ⟨e1, e2, e3, e4, e5, _, _⟩ := Sd.call_same S [s.data.toList]
 have hsy : S.remove s.data.toList = if (S.call [s.data.toList]).2 ≠ 0 then S.call [s.data.toList] else if (S.names.get s.data.toList).isNone then ((S.call [s.data.toList]).1, 11)
  else ({ (S.call [s.data.toList]).1 with names := Tn.go ⟨3, 0, s.data.toList, []⟩ S.names, turns := S.turns ++ [⟨3, 0, s.data.toList, []⟩] }, 0) := rfl
 generalize S.call [s.data.toList] = R at *
 obtain ⟨S1, er⟩ := R
 simp only at *
 by_cases h0 : er = 0
 ·subst h0
  rw [if_neg (by simp)] at hsy
  have hfd := fun w1 h1 => find_any X S1 s hs w1 h1 hw1.names
  cases h3 : S.names.get s.data.toList with
  | none =>
   simp only [h3, Option.isNone_none, if_true] at hsy
   rw [hsy]
   simp only [e1, h3] at hfd
   clear hsy h3 e1 e2 e3 e4 e5 hw1 hw h hld
   go_enter Tryz.func100, Tryz.ntmps100
   go_wp2_with fail
   refine hcall.mono ?_
   rintro e w1 ⟨rfl, h1, hc1⟩
   go_wp2_with fail
   refine (hfd w1 h1).mono ?_
   rintro e w2 ⟨rfl, rfl⟩
   go_wp2
   go_ret
   exact ⟨rfl, Upd.called h1 hc1⟩
  | some i =>
   simp only [h3, Option.isNone_some, Bool.false_eq_true, if_false] at hsy
   rw [hsy, ← e1, ← e4]
   simp only [e1, h3] at hfd
   have hml : S1.turns.length + 1 ≤ 1099511627777 := by unfold Sd.load at hld hl; omega
   clear hsy h3 e1 e2 e3 e4 e5 hw h hld
   go_enter Tryz.func100, Tryz.ntmps100
   go_wp2_with fail
   refine hcall.mono ?_
   rintro e w1 ⟨rfl, h1, hc1⟩
   go_wp2_with fail
   refine (hfd w1 h1).mono ?_
   rintro e w2 ⟨rfl, rfl⟩
   unfold ptrV
   go_wp2
   have hbV : Below w1.heap.size w1 (w1.alloc (.cells #[.int .i64 3, .int .i64 0, .string s, .string ⟨#[]⟩] 125)) := (Below.refl _ _).alloc (Nat.le_refl _) _
   have hbox := BoxO.new w1 #[.int .i64 3, .int .i64 0, .string s, .string ⟨#[]⟩] 125
   have hlt : w1.heap.size < (w1.alloc (.cells #[.int .i64 3, .int .i64 0, .string s, .string ⟨#[]⟩] 125)).heap.size := by simp
   have h2 := h1.below hbV
   have hup0 := Chg.of_below hbV X.foot
   generalize w1.alloc (.cells #[.int .i64 3, .int .i64 0, .string s, .string ⟨#[]⟩] 125) = V at *
   have c0 := hbox.cell 0
   have c1 := hbox.cell 1
   have c2 := hbox.cell 2
   have c3 := hbox.cell 3
   have d2 := h2.box.cell 2
   simp only [Dw.cells, gE0, gE1] at c0 c1 c2 c3 d2
   have htb := h1.lt
   have hnamed := Lib.hid h2.names
   have hsm : S1.names.length < maxLen := by have := hw1.most; unfold maxLen; omega
   generalize w1.heap.size = tb at *
   go_still_tail 5, (by kernel_rfl)
   change wpList _ _ _ _ _ (World.drew V)
   go_wp2_with fail
   have hdo := do_any 3 0 s.data.toList [] (by simpa using hs) (by simp) (by omega) X.nb S1.names.length S1.names V.drew hnamed.out.drew hsm (by omega)
   simp only [turnV, str_list] at hdo
   refine hdo.mono ?_
   rintro e w3 ⟨rfl, hn3, hc3⟩
   have hc3' : Chg [X.nb] V w3 := (Chg.refl [X.nb] V).drew.trans hc3 (fun g hg => .inl hg)
   have h3 := h2.setNames hn3 hc3'
   have hbox3 := hbox.chg hc3' (by simp; have := htb X.nb (mem_foot.2 (.inr (.inl rfl))); omega)
   have c0 := hbox3.cell 0
   have c1 := hbox3.cell 1
   have c2 := hbox3.cell 2
   have c3 := hbox3.cell 3
   have d4 := h3.box.cell 4
   have f4 := h3.box.free 4
   have hxd := h3.box.lt
   obtain ⟨tA, tc, htv, _, _, _⟩ := own_form h3.turns
   simp only [Dw.cells, gE0, gE1] at c0 c1 c2 c3 d4
   rw [htv] at d4
   clear d2 hnamed hdo hn3
   have hrow4 := own_base h3.turns (Nat.zero_le _)
   rw [htv] at hrow4
   have hpre := fun (o : Obj) (w4 : World) (hg : ((w3.alloc o).drew).grownBy w4 (Value.slice tA S1.turns.length tc).ownBlock) => (⟨(grown_box h3 (by rw [htv]; exact hg)).cell 4, (grown_box h3 (by rw [htv]; exact hg)).free 4⟩ : w4.cell? ⟨X.d, 4, none⟩ = _ ∧ w4.frozen? ⟨X.d, 4, none⟩ = false)
   have hpost := fun (o : Obj) (w4 : World) (v : Value) (hg : ((w3.alloc o).drew).grownBy w4 (Value.slice tA S1.turns.length tc).ownBlock) hown hob => upd_turn (o := o) (w4 := w4) (v := v) h3 ⟨3, 0, s.data.toList, []⟩ (by rw [htv]; exact hg) hown (by rw [htv]; exact hob)
   simp only [turnCells, str_list] at hpost
   have HPO := Lib.hid hpost
   have HPR := Lib.hid hpre
   have htr := fun (w5 : World) (S5 : Sd) (h : Upd X w3 w5 S5) => Upd.after hc1 (Upd.trans rfl (hup0.trans (hc3'.mono (fun g hg => .inl (by rw [List.mem_singleton.1 hg]; exact mem_foot.2 (.inr (.inl rfl))) : ∀ g ∈ [X.nb], g ∈ X.foot ∨ _)) (fun g hg => .inl hg)) (fun g hg => .inl hg) h)
   have HTR := Lib.hid htr
   clear hpost hpre htr
   obtain ⟨i0, hi0, hz0, hz1, hz2⟩ := info_parts info_turn
   go_wp2
   go_region_law (refine step_appF rfl (.tmp 30) (.tmp 32) _ rfl 0 125 i0 _ 4 48 Tryz.underlying103 hi0 hz0 hz1 hz2 rfl (by omega) (Nat.zero_le _) (.slice tA S1.turns.length tc) S1.turns.length _ rfl (hrow4.alloc _).drew _ (some ⟨w3.heap.size, 0, none⟩) 1 1 (by omega) [.int .i64 3, .int .i64 0, .string s, .string ⟨#[]⟩] rfl (Row.new w3 #[.int .i64 3, .int .i64 0, .string s, .string ⟨#[]⟩] 125 (n := 1) (size := 4) rfl).drew (by simp [Value.oneCell']) (S1.turns.length + 1) _ rfl rfl (by unfold maxLen; omega) (by omega) ?_; intro A4 c4 w4 hown4 hg4 _ _ hob4; obtain ⟨q4, q5⟩ := HPR.out _ _ hg4; have HO := Lib.hid (HTR.out _ _ (HPO.out _ _ _ hg4 hown4 hob4)); clear hg4 hown4 hob4; simp only [Dw.cells, gE0, gE1] at q4)
   all_goals
    go_wp2
    go_ret
    exact ⟨rfl, HO.out⟩
 ·have hne := neq0 h0
  rw [if_pos h0] at hsy
  rw [hsy]
  clear hsy e1 e2 e3 e4 e5 h0 hld
  go_enter Tryz.func100, Tryz.ntmps100
  go_wp2_with fail
  refine hcall.mono ?_
  rintro e w1 ⟨rfl, h1, hc1⟩
  go_wp2
  go_ret
  exact ⟨rfl, Upd.called h1 hc1⟩
end
section
open Go Go.RowKit Go.Maps
theorem call2 (X : Dw) (S : Sd) (s u : ByteArray) (hs : s.size ≤ maxLen) (hu : u.size ≤ maxLen) (hw : S.Wf) (w : World) (h : DK w X S) :
  Calls Tryz.prog 157 #[.pointer (some ⟨X.d, 0, none⟩), .slice (some ⟨w.heap.size, 0, none⟩) 2 2] (w.alloc (.cells #[.string s, .string u] 9)) fun e w' => e = .returned (.int .i64 ((S.call [s.data.toList, u.data.toList]).2 : Int)) ∧ DK w' X (S.call [s.data.toList, u.data.toList]).1 ∧ Chg [X.d] w w' := by
 have hb : Below w.heap.size w (w.alloc (.cells #[.string s, .string u] 9)) := (Below.refl _ _).alloc (Nat.le_refl _) _
 refine (call_any X S (some ⟨w.heap.size, 0, none⟩) 2 2 [s, u] (by omega) (by simp; exact ⟨hs, hu⟩) hw.stop hw.fail _ (h.below hb) ?_).mono ?_
 ·exact (Row.new w #[.string s, .string u] 9 (n := 2) (size := 1) rfl).up (by simp)
 ·rintro e w' ⟨rfl, h1, h2⟩
  exact ⟨rfl, h1, (Chg.of_below hb [X.d]).trans h2 (fun g hg => .inl hg)⟩
theorem rename_any (X : Dw) (S : Sd) (s u : ByteArray) (hs : s.size ≤ maxLen) (hu : u.size ≤ maxLen) (hw : S.Wf) (hl : S.load ≤ 1099511627776) (w : World) (h : DK w X S) :
  Calls Tryz.prog 201 #[.pointer (some ⟨X.d, 0, none⟩), .string s, .string u] w fun e w' => e = .returned (.int .i64 ((S.rename s.data.toList u.data.toList).2 : Int)) ∧ Upd X w w' (S.rename s.data.toList u.data.toList).1 := by
 have hcall := call2 X S s u hs hu hw w h
 have hw1 := hw.call [s.data.toList, u.data.toList]
 have hld := Sd.call_load S [s.data.toList, u.data.toList]
 obtain ⟨e1, e2, e3, e4, e5, _, _⟩ := Sd.call_same S [s.data.toList, u.data.toList]
 have hsy : S.rename s.data.toList u.data.toList = if (S.call [s.data.toList, u.data.toList]).2 ≠ 0 then S.call [s.data.toList, u.data.toList] else if (S.names.get s.data.toList).isNone then ((S.call [s.data.toList, u.data.toList]).1, 11)
  else if s.data.toList = u.data.toList then ((S.call [s.data.toList, u.data.toList]).1, 0)
  else ({ (S.call [s.data.toList, u.data.toList]).1 with names := Tn.go ⟨2, 0, s.data.toList, u.data.toList⟩ S.names, turns := S.turns ++ [⟨2, 0, s.data.toList, u.data.toList⟩] }, 0) := rfl
 generalize S.call [s.data.toList, u.data.toList] = R at *
 obtain ⟨S1, er⟩ := R
 simp only at *
 by_cases h0 : er = 0
 ·subst h0
  rw [if_neg (by simp)] at hsy
  have hfd := fun w1 h1 => find_any X S1 s hs w1 h1 hw1.names
  cases h3 : S.names.get s.data.toList with
  | none =>
   simp only [h3, Option.isNone_none, if_true] at hsy
   rw [hsy]
   simp only [e1, h3] at hfd
   clear hsy h3 e1 e2 e3 e4 e5 hw1 hw h hld
   go_enter Tryz.func201, Tryz.ntmps201
   go_wp2_with fail
   refine hcall.mono ?_
   rintro e w1 ⟨rfl, h1, hc1⟩
   go_wp2_with fail
   refine (hfd w1 h1).mono ?_
   rintro e w2 ⟨rfl, rfl⟩
   go_wp2
   go_ret
   exact ⟨rfl, Upd.called h1 hc1⟩
  | some i =>
   simp only [h3, Option.isNone_some, Bool.false_eq_true, if_false] at hsy
   by_cases hab : s = u
   ·subst hab
    rw [if_pos rfl] at hsy
    rw [hsy]
    simp only [e1, h3] at hfd
    clear hsy h3 e1 e2 e3 e4 e5 hw1 hw h hld
    go_enter Tryz.func201, Tryz.ntmps201
    go_wp2_with fail
    refine hcall.mono ?_
    rintro e w1 ⟨rfl, h1, hc1⟩
    go_wp2_with fail
    refine (hfd w1 h1).mono ?_
    rintro e w2 ⟨rfl, rfl⟩
    unfold ptrV
    go_wp2
    go_ret
    exact ⟨rfl, Upd.called h1 hc1⟩
   have hab' : ¬s.data.toList = u.data.toList := fun e => hab (by rw [← str_list s, e, str_list])
   rw [if_neg hab'] at hsy
   have hbeq : (s.toList == u.toList) = false := by
    rw [ByteArray.toList_eq, ByteArray.toList_eq]
    simpa using hab'
   clear hab hab'
   rw [hsy, ← e1, ← e4]
   simp only [e1, h3] at hfd
   have hml : S1.turns.length + 1 ≤ 1099511627777 := by unfold Sd.load at hld hl; omega
   clear hsy h3 e1 e2 e3 e4 e5 hw h hld
   go_enter Tryz.func201, Tryz.ntmps201
   go_wp2_with fail
   refine hcall.mono ?_
   rintro e w1 ⟨rfl, h1, hc1⟩
   go_wp2_with fail
   refine (hfd w1 h1).mono ?_
   rintro e w2 ⟨rfl, rfl⟩
   unfold ptrV
   go_wp2
   have hbV : Below w1.heap.size w1 (w1.alloc (.cells #[.int .i64 2, .int .i64 0, .string s, .string u] 125)) := (Below.refl _ _).alloc (Nat.le_refl _) _
   have hbox := BoxO.new w1 #[.int .i64 2, .int .i64 0, .string s, .string u] 125
   have hlt : w1.heap.size < (w1.alloc (.cells #[.int .i64 2, .int .i64 0, .string s, .string u] 125)).heap.size := by simp
   have h2 := h1.below hbV
   have hup0 := Chg.of_below hbV X.foot
   generalize w1.alloc (.cells #[.int .i64 2, .int .i64 0, .string s, .string u] 125) = V at *
   have c0 := hbox.cell 0
   have c1 := hbox.cell 1
   have c2 := hbox.cell 2
   have c3 := hbox.cell 3
   have d2 := h2.box.cell 2
   simp only [Dw.cells, gE0, gE1] at c0 c1 c2 c3 d2
   have htb := h1.lt
   have hnamed := Lib.hid h2.names
   have hsm : S1.names.length < maxLen := by have := hw1.most; unfold maxLen; omega
   generalize w1.heap.size = tb at *
   go_still_tail 5, (by kernel_rfl)
   change wpList _ _ _ _ _ (World.drew V)
   go_wp2_with fail
   have hdo := do_any 2 0 s.data.toList u.data.toList (by simpa using hs) (by simpa using hu) (by omega) X.nb S1.names.length S1.names V.drew hnamed.out.drew hsm (by omega)
   simp only [turnV, str_list] at hdo
   refine hdo.mono ?_
   rintro e w3 ⟨rfl, hn3, hc3⟩
   have hc3' : Chg [X.nb] V w3 := (Chg.refl [X.nb] V).drew.trans hc3 (fun g hg => .inl hg)
   have h3 := h2.setNames hn3 hc3'
   have hbox3 := hbox.chg hc3' (by simp; have := htb X.nb (mem_foot.2 (.inr (.inl rfl))); omega)
   have c0 := hbox3.cell 0
   have c1 := hbox3.cell 1
   have c2 := hbox3.cell 2
   have c3 := hbox3.cell 3
   have d4 := h3.box.cell 4
   have f4 := h3.box.free 4
   have hxd := h3.box.lt
   obtain ⟨tA, tc, htv, _, _, _⟩ := own_form h3.turns
   simp only [Dw.cells, gE0, gE1] at c0 c1 c2 c3 d4
   rw [htv] at d4
   clear d2 hnamed hdo hn3
   have hrow4 := own_base h3.turns (Nat.zero_le _)
   rw [htv] at hrow4
   have hpre := fun (o : Obj) (w4 : World) (hg : ((w3.alloc o).drew).grownBy w4 (Value.slice tA S1.turns.length tc).ownBlock) => (⟨(grown_box h3 (by rw [htv]; exact hg)).cell 4, (grown_box h3 (by rw [htv]; exact hg)).free 4⟩ : w4.cell? ⟨X.d, 4, none⟩ = _ ∧ w4.frozen? ⟨X.d, 4, none⟩ = false)
   have hpost := fun (o : Obj) (w4 : World) (v : Value) (hg : ((w3.alloc o).drew).grownBy w4 (Value.slice tA S1.turns.length tc).ownBlock) hown hob => upd_turn (o := o) (w4 := w4) (v := v) h3 ⟨2, 0, s.data.toList, u.data.toList⟩ (by rw [htv]; exact hg) hown (by rw [htv]; exact hob)
   simp only [turnCells, str_list] at hpost
   have HPO := Lib.hid hpost
   have HPR := Lib.hid hpre
   have htr := fun (w5 : World) (S5 : Sd) (h : Upd X w3 w5 S5) => Upd.after hc1 (Upd.trans rfl (hup0.trans (hc3'.mono (fun g hg => .inl (by rw [List.mem_singleton.1 hg]; exact mem_foot.2 (.inr (.inl rfl))) : ∀ g ∈ [X.nb], g ∈ X.foot ∨ _)) (fun g hg => .inl hg)) (fun g hg => .inl hg) h)
   have HTR := Lib.hid htr
   clear hpost hpre htr
   obtain ⟨i0, hi0, hz0, hz1, hz2⟩ := info_parts info_turn
   go_wp2
   go_region_law (refine step_appF rfl (.tmp 39) (.tmp 41) _ rfl 0 125 i0 _ 4 48 Tryz.underlying103 hi0 hz0 hz1 hz2 rfl (by omega) (Nat.zero_le _) (.slice tA S1.turns.length tc) S1.turns.length _ rfl (hrow4.alloc _).drew _ (some ⟨w3.heap.size, 0, none⟩) 1 1 (by omega) [.int .i64 2, .int .i64 0, .string s, .string u] rfl (Row.new w3 #[.int .i64 2, .int .i64 0, .string s, .string u] 125 (n := 1) (size := 4) rfl).drew (by simp [Value.oneCell']) (S1.turns.length + 1) _ rfl rfl (by unfold maxLen; omega) (by omega) ?_; intro A4 c4 w4 hown4 hg4 _ _ hob4; obtain ⟨q4, q5⟩ := HPR.out _ _ hg4; have HO := Lib.hid (HTR.out _ _ (HPO.out _ _ _ hg4 hown4 hob4)); clear hg4 hown4 hob4; simp only [Dw.cells, gE0, gE1] at q4)
   all_goals
    go_wp2
    go_ret
    exact ⟨rfl, HO.out⟩
 ·have hne := neq0 h0
  rw [if_pos h0] at hsy
  rw [hsy]
  clear hsy e1 e2 e3 e4 e5 h0 hld
  go_enter Tryz.func201, Tryz.ntmps201
  go_wp2_with fail
  refine hcall.mono ?_
  rintro e w1 ⟨rfl, h1, hc1⟩
  go_wp2
  go_ret
  exact ⟨rfl, Upd.called h1 hc1⟩
end
section
open Go Go.RowKit Go.Maps
theorem info_pfile : (Tryz.prog.info? 120).map (fun i => (i.zero, i.size, i.bytes)) = some (some (.pointer none), 1, 8) := by kernel_rfl
theorem create_eq (S : Sd) (s : List UInt8) : S.create s = if (S.call [s]).2 ≠ 0 then S.call [s] else if (S.names.get s).isSome then ((S.call [s]).1, 12) else if 64 ≤ S.names.length then ((S.call [s]).1, 65)
  else ({ (S.call [s]).1 with names := S.names.put s S.files.length, turns := S.turns ++ [⟨1, S.files.length, s, []⟩], files := S.files ++ [([], 0)] }, 0) := rfl
def fileBox (w : World) : World := (w.alloc (.cells #[.slice none 0 0, .int .i64 0] 123)).alloc (.cells #[.pointer (some ⟨w.heap.size, 0, none⟩)] 120)
theorem fileBox_size (w : World) : (fileBox w).heap.size = w.heap.size + 2 := by simp [fileBox]
theorem fileBox_below (w : World) : Below w.heap.size w (fileBox w) := ((Below.refl _ _).alloc (Nat.le_refl _) _).alloc (by simp) _
theorem fileBox_grown {w w4 : World} {X : Dw} {S : Sd} (h : DK w X S) (hg : (fileBox w).grownBy w4 X.fv.ownBlock) : BoxO w4 105 X.d (X.cells S) :=
 (h.box.below (fileBox_below w)).chg (Chg.of_grown (F := X.fv.ownBlock.toList) hg (fun b e => by simp [e])) (fun hm => (h.apart.fv _ (by simpa using hm)).1 rfl)
theorem upd_file {w w4 : World} {X : Dw} {S : Sd} (h : DK w X S) {v : Value} (hg : (fileBox w).grownBy w4 X.fv.ownBlock) (hown : w4.ownsRow 0 120 1 v (S.files.length + 1) (X.ps.map ptrV ++ [.pointer (some ⟨w.heap.size, 0, none⟩)]))
  (hob : v.ownBlock = X.fv.ownBlock ∨ v.ownBlock = some (fileBox w).heap.size) : Upd X w (w4.setCell ⟨X.d, 1, none⟩ v) { S with files := S.files ++ [([], 0)] } := by
 have hbox := fileBox_grown h hg
 have ha := h.apart
 have hsz := fileBox_size w
 have hlt := h.lt
 have hvd : ∀ g, v.ownBlock = some g → g ≠ X.d ∧ g ≠ w.heap.size := fun g e => by
  rcases hob with h1 | h1
  ·have h2 := (ha.fv g (by rw [← h1, e])).1
   have h3 := hlt g (mem_foot.2 (.inr (.inr (.inr (.inl (by rw [← h1, e]))))))
   exact ⟨h2, by omega⟩
  ·rw [e] at h1
   injection h1 with h1
   have := h.box.lt
   exact ⟨by omega, by omega⟩
 have hc1 : Chg X.fv.ownBlock.toList w w4 := (Chg.of_below (fileBox_below w) _).trans (Chg.of_grown (F := X.fv.ownBlock.toList) hg (fun b e => by simp [e])) (fun g hg => .inl hg)
 have hc2 : Chg ([X.d] ++ X.fv.ownBlock.toList) w (w4.setCell ⟨X.d, 1, none⟩ v) := (hc1.mono (fun g hg => .inl (List.mem_append_right _ hg))).setCell v (.inl (by simp))
 have hv : ∀ g, v.ownBlock = some g → X.fv.ownBlock = some g ∨ w.heap.size ≤ g := fun g e => by
  rcases hob with h1 | h1
  ·exact .inl (by rw [← h1, e])
  ·rw [e] at h1
   injection h1 with h1
   exact .inr (by omega)
 have hfb0 : BoxO (w.alloc (.cells #[.slice none 0 0, .int .i64 0] 123)) 123 w.heap.size [.slice none 0 0, .int .i64 0] := BoxO.new _ _ _
 have hfb1 : BoxO (fileBox w) 123 w.heap.size [.slice none 0 0, .int .i64 0] := hfb0.alloc _
 have hfb : BoxO w4 123 w.heap.size [.slice none 0 0, .int .i64 0] := hfb1.chg (Chg.of_grown (F := X.fv.ownBlock.toList) hg (fun b e => by simp [e])) (fun hm => by
  have := hlt w.heap.size (mem_foot.2 (.inr (.inr (.inr (.inl (by simpa using hm))))))
  omega)
 have hdk := DK.addFile (w' := w4.setCell ⟨X.d, 1, none⟩ v) (fv := v) (b := w.heap.size) h (by
   have h1 := own_chg hown (chg_set w4 ⟨X.d, 1, none⟩ v) (fun g e hg => (hvd g e).1 (by simpa using hg))
   simpa [ptrV] using h1) (Nat.le_refl _) (fun e => (hvd _ e).2 rfl) (hfb.chg (chg_set w4 ⟨X.d, 1, none⟩ v) (fun hm => by
    have := h.box.lt
    simp at hm
    omega)) hc2 hv (by
   have h1 := hbox.store 1 v
   exact h1)
 refine ⟨{ X with fv := v, ps := X.ps ++ [(w.heap.size, Value.slice none 0 0)] }, rfl, hdk, hc2.mono (fun g hg => .inl ?_), fun g hg => ?_⟩
 ·rcases List.mem_append.1 hg with h1 | h1
  ·rw [List.mem_singleton.1 h1]; exact mem_foot.2 (.inl rfl)
  ·exact mem_foot.2 (.inr (.inr (.inr (.inl (by simpa using h1)))))
 ·rcases mem_foot.1 hg with h1 | h1 | h1 | h1 | h1 | ⟨p, hp, hgp⟩
  ·exact .inl (mem_foot.2 (.inl h1))
  ·exact .inl (mem_foot.2 (.inr (.inl h1)))
  ·exact .inl (mem_foot.2 (.inr (.inr (.inl h1))))
  ·rcases hv g h1 with h2 | h2
   ·exact .inl (mem_foot.2 (.inr (.inr (.inr (.inl h2)))))
   ·exact .inr h2
  ·exact .inl (mem_foot.2 (.inr (.inr (.inr (.inr (.inl h1))))))
  ·rcases List.mem_append.1 hp with hp | hp
   ·exact .inl (mem_foot.2 (.inr (.inr (.inr (.inr (.inr ⟨p, hp, hgp⟩))))))
   ·rw [List.mem_singleton.1 hp] at hgp
    simp [fileFoot, Value.ownBlock] at hgp
    exact .inr (by omega)
theorem create_any (X : Dw) (S : Sd) (s : ByteArray) (hs : s.size ≤ maxLen) (hw : S.Wf) (hl : S.load ≤ 1099511627776) (w : World) (h : DK w X S) :
  Calls Tryz.prog 172 #[.pointer (some ⟨X.d, 0, none⟩), .string s] w fun e w' => e = .returned (.int .i64 ((S.create s.data.toList).2 : Int)) ∧ Upd X w w' (S.create s.data.toList).1 := by
 have hcall := call1 X S s hs hw w h
 have hw1 := hw.call [s.data.toList]
 have hld := Sd.call_load S [s.data.toList]
 obtain ⟨e1, e2, e3, e4, e5, _, _⟩ := Sd.call_same S [s.data.toList]
 have hsy := create_eq S s.data.toList
 generalize S.call [s.data.toList] = R at *
 obtain ⟨S1, er⟩ := R
 simp only at *
 by_cases h0 : er = 0
 ·subst h0
  rw [if_neg (by simp)] at hsy
  have hfd := fun w1 h1 => find_any X S1 s hs w1 h1 hw1.names
  cases h3 : S.names.get s.data.toList with
  | some i =>
   simp only [h3, Option.isSome_some, if_true] at hsy
   rw [hsy]
   simp only [e1, h3] at hfd
   clear hsy h3 e1 e2 e3 e4 e5 hw1 hw h hld
   go_enter Tryz.func172, Tryz.ntmps172
   go_wp2_with fail
   refine hcall.mono ?_
   rintro e w1 ⟨rfl, h1, hc1⟩
   go_wp2_with fail
   refine (hfd w1 h1).mono ?_
   rintro e w2 ⟨rfl, rfl⟩
   unfold ptrV
   go_wp2
   go_ret
   exact ⟨rfl, Upd.called h1 hc1⟩
  | none =>
   simp only [h3, Option.isSome_none, Bool.false_eq_true, if_false] at hsy
   simp only [e1, h3] at hfd
   by_cases hm : 64 ≤ S.names.length
   ·rw [if_pos hm] at hsy
    rw [hsy]
    have hm1 : (64 : Int) ≤ (S1.names.length : Int) := by rw [e1]; omega
    clear hsy h3 e1 e2 e3 e4 e5 hw h hld hm
    go_enter Tryz.func172, Tryz.ntmps172
    go_wp2_with fail
    refine hcall.mono ?_
    rintro e w1 ⟨rfl, h1, hc1⟩
    go_wp2_with fail
    refine (hfd w1 h1).mono ?_
    rintro e w2 ⟨rfl, rfl⟩
    have d2 := h1.box.cell 2
    have hn := Lib.hid h1.names
    have hsz := Nm.enc_size S1.names
    simp only [Dw.cells, gE0, gE1] at d2
    go_wp2_with (at_len; refine wpList_len_own _ rfl _ 101 rfl 9 3 Tryz.underlying101 _ X.nb _ _ rfl hn.out ?_; rw [hsz])
    go_wp2
    go_ret
    exact ⟨rfl, Upd.called h1 hc1⟩
   ·rw [if_neg hm] at hsy
    have hm1 : (S1.names.length : Int) < 64 := by rw [e1]; omega
    have hm2 : S1.names.length < maxLen := by unfold maxLen; omega
    rw [hsy, ← e1, ← e4, ← e3]
    have hml : S1.turns.length + 1 ≤ 1099511627777 ∧ S1.files.length + 1 ≤ 1099511627777 := by unfold Sd.load at hld hl; omega
    obtain ⟨hml, hmf⟩ := hml
    clear hsy h3 e1 e2 e3 e4 e5 hw h hld hm
    have hkey := key_s hs
    have HP := Lib.hid (Nm.enc_put S1.names s.data.toList S1.files.length)
    have hwf : (Lit.int .i64 (S1.files.length : Int)).wf = true := WalkArith.wf_i64 (by omega)
    go_enter Tryz.func172, Tryz.ntmps172
    go_wp2_with fail
    refine hcall.mono ?_
    rintro e w1 ⟨rfl, h1, hc1⟩
    go_wp2_with fail
    refine (hfd w1 h1).mono ?_
    rintro e w2 ⟨rfl, rfl⟩
    have d2 := h1.box.cell 2
    have d1 := h1.box.cell 1
    have hn := Lib.hid h1.names
    have hsz := Nm.enc_size S1.names
    obtain ⟨fA, fc, hfv, _, _, _⟩ := own_form h1.files
    simp only [Dw.cells, gE0, gE1] at d2 d1
    rw [hfv] at d1
    go_wp2_with (at_len; refine wpList_len_own _ rfl _ 101 rfl 9 3 Tryz.underlying101 _ X.nb _ _ rfl hn.out ?_; rw [hsz])
    go_wp2
    go_still_tail 10, (by kernel_rfl)
    change wpList _ _ _ _ _ (World.drew w1)
    go_wp2_with (at_mapUpdate; refine wpList_mapUpdate_own _ rfl _ _ _ 101 rfl 9 3 law_s Tryz.underlying101 _ X.nb _ _ rfl hn.out.drew hm2 _ _ _ rfl rfl hkey _ [] (plainElem_int Tryz.underlying3 hwf) ?_; intro w3 hown3 hgrow3)
    rw [HP.out] at hown3
    have hc3 : Chg [X.nb] w1 w3 := (Chg.refl [X.nb] w1).drew.trans (Chg.of_grown (F := [X.nb]) hgrow3 (fun b hb => by cases hb; simp)) (fun g hg => .inl hg)
    have h3 := h1.setNames hown3 hc3
    clear hown3 hgrow3 HP hn d2 d1 hsz
    have d4 := h3.box.cell 4
    have d1 := h3.box.cell 1
    have hxd := h3.box.lt
    obtain ⟨tA, tc, htv, _, _, _⟩ := own_form h3.turns
    simp only [Dw.cells, gE0, gE1] at d4 d1
    rw [htv] at d4
    rw [hfv] at d1
    have hrow4 := own_base h3.turns (Nat.zero_le _)
    rw [htv] at hrow4
    have hpre := fun (o : Obj) (w4 : World) (hg : ((w3.alloc o).drew).grownBy w4 (Value.slice tA S1.turns.length tc).ownBlock) => (⟨(grown_box h3 (by rw [htv]; exact hg)).cell 4, (grown_box h3 (by rw [htv]; exact hg)).free 4⟩ : w4.cell? ⟨X.d, 4, none⟩ = _ ∧ w4.frozen? ⟨X.d, 4, none⟩ = false)
    have hpost := fun (o : Obj) (w4 : World) (v : Value) (hg : ((w3.alloc o).drew).grownBy w4 (Value.slice tA S1.turns.length tc).ownBlock) hown hob => upd_turnD (o := o) (w4 := w4) (v := v) h3 ⟨1, S1.files.length, s.data.toList, []⟩ (by rw [htv]; exact hg) hown (by rw [htv]; exact hob)
    simp only [turnCells, str_list] at hpost
    have HPO := Lib.hid hpost
    have HPR := Lib.hid hpre
    obtain ⟨i0, hi0, hz0, hz1, hz2⟩ := info_parts info_turn
    clear hpost hpre h1 htv
    go_wp2
    go_region_law (refine step_appF rfl (.tmp 39) (.tmp 47) _ rfl 0 125 i0 _ 4 48 Tryz.underlying103 hi0 hz0 hz1 hz2 rfl (by omega) (Nat.zero_le _) (.slice tA S1.turns.length tc) S1.turns.length _ rfl (hrow4.alloc _).drew _ (some ⟨w3.heap.size, 0, none⟩) 1 1 (by omega) [.int .i64 1, .int .i64 (S1.files.length : Int), .string s, .string ⟨#[]⟩] rfl (Row.new w3 #[.int .i64 1, .int .i64 (S1.files.length : Int), .string s, .string ⟨#[]⟩] 125 (n := 1) (size := 4) rfl).drew (by simp [Value.oneCell']) (S1.turns.length + 1) _ rfl rfl (by unfold maxLen; omega) (by omega) ?_; intro A4 c4 w4 hown4 hg4 _ _ hob4; obtain ⟨q4, q5⟩ := HPR.out _ _ hg4; have HO := Lib.hid (HPO.out _ _ _ hg4 hown4 hob4); clear hg4 hown4 hob4; simp only [Dw.cells, gE0, gE1] at q4)
    all_goals
     obtain ⟨h5, hc5, hf5⟩ := HO.out
     clear HO HPO HPR hrow4 d4 d1 q4 q5 h3 hxd
     generalize w4.setCell ⟨X.d, 4, none⟩ (.slice A4 (S1.turns.length + 1) c4) = w5 at *
     have d1 := h5.box.cell 1
     simp only [Dw.cells, gE0, gE1] at d1
     rw [hfv] at d1
     have hrow := h5.files
     have hpre := fun (w6 : World) (hg : (fileBox w5).grownBy w6 (Value.slice fA S1.files.length fc).ownBlock) => (⟨(fileBox_grown h5 (by simp only [hfv]; exact hg)).cell 1, (fileBox_grown h5 (by simp only [hfv]; exact hg)).free 1⟩ : w6.cell? ⟨X.d, 1, none⟩ = _ ∧ w6.frozen? ⟨X.d, 1, none⟩ = false)
     have hpost := fun (w6 : World) (v : Value) (hg : (fileBox w5).grownBy w6 (Value.slice fA S1.files.length fc).ownBlock) hown hob => upd_file (w4 := w6) (v := v) h5 (by simp only [hfv]; exact hg) hown (by simp only [hfv]; exact hob)
     simp only [hfv] at hrow
     have HPO := Lib.hid hpost
     have HPR := Lib.hid hpre
     have HRW := Lib.hid hrow
     clear hpost hpre hrow hfv
     obtain ⟨j0, hj0, hy0, hy1, hy2⟩ := info_parts info_pfile
     have HTR : ∀ w7 S7, Upd { X with tv := .slice A4 (S1.turns.length + 1) c4 } w5 w7 S7 → Upd X w w7 S7 := fun w7 S7 hu =>
      Upd.after hc1 (Upd.trans (X1 := { X with tv := .slice A4 (S1.turns.length + 1) c4 }) rfl ((hc3.mono (fun g hg => .inl (by rw [List.mem_singleton.1 hg]; exact mem_foot.2 (.inr (.inl rfl))))).trans hc5 (fun g hg => .inl hg)) (fun g hg => by
       rcases hf5 g hg with h1 | h1
       ·exact .inl h1
       ·exact .inr (Nat.le_trans hc3.size h1)) hu)
     have HT := Lib.hid HTR
     clear HTR hc1 hc3 hc5 hf5
     go_wp2_with (at_builtin; refine stop_in ?_)
     refine stop_out (wpList_appF rfl (.tmp 55) (.tmp 58) _ rfl 0 120 j0 _ 1 8 Tryz.underlying102 hj0 hy0 hy1 hy2 rfl (by omega) (fileBox w5) (Below.refl _ _) (Nat.zero_le _) (.slice fA S1.files.length fc) S1.files.length _ rfl (own_below HRW.out (fileBox_below w5)) (w5.heap.size + 2) (some ⟨w5.heap.size + 1, 0, none⟩) 1 1 (by omega) [.pointer (some ⟨w5.heap.size, 0, none⟩)] (by simp [Act.eval]) ?rw (by simp [Value.oneCell']) (S1.files.length + 1) _ rfl rfl (by unfold maxLen; omega) (by omega) ?_)
     case rw =>
      have h9 := Row.new (w5.alloc (.cells #[.slice none 0 0, .int .i64 0] 123)) #[.pointer (some ⟨w5.heap.size, 0, none⟩)] 120 (n := 1) (size := 1) rfl
      simpa using h9
     intro A6 c6 w6 hown6 _ hg6 _ _ hob6
     obtain ⟨q4, q5⟩ := HPR.out _ hg6
     have HO := Lib.hid (HT.out _ _ (HPO.out _ _ hg6 hown6 hob6))
     simp only [Dw.cells, gE0, gE1] at q4
     clear hg6 hown6 hob6 HT HPO HPR HRW
     go_wp2
     go_ret
     exact ⟨rfl, HO.out⟩
 ·have hne := neq0 h0
  rw [if_pos h0] at hsy
  rw [hsy]
  clear hsy e1 e2 e3 e4 e5 h0 hld
  go_enter Tryz.func172, Tryz.ntmps172
  go_wp2_with fail
  refine hcall.mono ?_
  rintro e w1 ⟨rfl, h1, hc1⟩
  go_wp2
  go_ret
  exact ⟨rfl, Upd.called h1 hc1⟩
end
section
open Go Go.RowKit
theorem run_appG {P : Program} (w : World) (base : Nat) (t ty e : TypeId) (i : TypeInfo) (z : Value) (size bytes : Nat) (ht : P.underlying t = some (.slice e)) (hi : P.info? e = some i) (hz : i.zero = some z)
  (hsize : i.size = size) (hby : i.bytes = bytes) (hzs : z.cells.size = size) (hsz : 0 < size) (v : Value) (n : Nat) (xs : List Value) (hown : w.ownsRow base e size v n xs)
  (B : Nat) (A : Option Addr) (m c : Nat) (news : List Value) (hr : Row B w A m size news) (h1 : ∀ u ∈ news, u.oneCell' = true)
  (h63 : n + m ≤ maxLen) (hbytes : (n + m) * bytes ≤ 140737488355328) (hbase : base ≤ w.heap.size) :
  ∃ A' c' w', (Builtin.append_ #[t, t] ty #[v, .slice A m c]).run P w = .ok (.slice A' (n + m) c') w' ∧ w'.ownsRow base e size (.slice A' (n + m) c') (n + m) (xs ++ news) ∧ w.grownBy w' v.ownBlock ∧ n + m ≤ c' ∧ c' ≤ maxLen ∧ ((Value.slice A' (n + m) c').ownBlock = v.ownBlock ∨ (Value.slice A' (n + m) c').ownBlock = some w.heap.size) := by
 rcases Nat.eq_zero_or_pos m with h0 | h0
 ·subst h0
  have hn : news = [] := List.eq_nil_of_length_eq_zero (by simpa using hr.len)
  subst hn
  obtain ⟨A', c', rfl, h5, h6, _⟩ := own_form hown
  rw [List.append_nil]
  refine ⟨A', c', w, ?_, hown, ⟨rfl, rfl, rfl, Nat.le_refl _, fun _ _ _ => rfl⟩, h5, h6, .inl rfl⟩
  rcases hown.2 with ⟨hv, rfl⟩ | ⟨g, cap, cur, hv, _, _, hnc, _⟩
  ·cases hv
   rcases A with _ | a <;> simp [Builtin.append_, run_underlying ht, sizeOf, typeInfo, hi, Builtin.lenOf, Builtin.firstCells, loadCells, loadCellsFrom]
  ·cases hv
   rcases A with _ | a <;> simp [Builtin.append_, run_underlying ht, sizeOf, typeInfo, hi, Builtin.lenOf, Builtin.firstCells, loadCells, loadCellsFrom, hnc, storeCells]
 ·have hpos : 0 < news.length := by
   rw [hr.len]
   exact Nat.mul_pos h0 hsz
  obtain ⟨a, rfl, _⟩ := hr.some_ hpos
  obtain ⟨v', w', h2, h3, h4, _, h6⟩ := run_append_own_at (P := P) (ty := ty) w base t e i z size bytes ht hi hz hsize hby hzs hsz v n xs hown a m c news hr.len hr.cells h1 h63 hbytes hbase
  obtain ⟨A', c', rfl, h5, h7, _⟩ := own_form h3
  exact ⟨A', c', w', h2, h3, h4, h5, h7, h6⟩
theorem wpList_appG {P : Program} {w : World} {ops : Array Oper} {rest : List Oper} {o : Oper} {a : Act} {Q : Exit → Act → World → Prop} (hgd : o.guard = none) (s x : Operand) (t : TypeId)
  (ho : o.op = .call { callee := .builtin .append, args := #[s, x], argTypes := #[t, t] })
  (base : Nat) (e : TypeId) (i : TypeInfo) (z : Value) (size bytes : Nat) (ht : P.underlying t = some (.slice e)) (hi : P.info? e = some i) (hz : i.zero = some z)
  (hsize : i.size = size) (hby : i.bytes = bytes) (hzs : z.cells.size = size) (hsz : 0 < size) (hbase : base ≤ w.heap.size) (v : Value) (n : Nat) (xs : List Value) (hs : a.eval s = v) (hown : w.ownsRow base e size v n xs)
  (B : Nat) (A : Option Addr) (m c : Nat) (news : List Value) (hx : a.eval x = .slice A m c) (hr : Row B w A m size news) (h1 : ∀ u ∈ news, u.oneCell' = true)
  (N : Nat) (X : List Value) (hN : n + m = N) (hX : xs ++ news = X) (h63 : N ≤ maxLen) (hbytes : N * bytes ≤ 140737488355328)
  (h : ∀ A' c' w', w'.ownsRow base e size (.slice A' N c') N X → w.grownBy w' v.ownBlock → N ≤ c' → c' ≤ maxLen → ((Value.slice A' N c').ownBlock = v.ownBlock ∨ (Value.slice A' N c').ownBlock = some w.heap.size) → wpList P ops Q rest (a.put o.dst (.slice A' N c')) w') : wpList P ops Q (o :: rest) a w := by
 subst hN
 subst hX
 obtain ⟨A', c', w', hrun, h3, h4, h5, h7, h6⟩ := run_appG (P := P) w base t o.type e i z size bytes ht hi hz hsize hby hzs hsz v n xs hown B A m c news hr h1 h63 hbytes hbase
 refine wpList_plain hgd fun _ hK => ?_
 unfold Oper.wp execOp
 simp only [ho, resolve, invoke, builtin, Sem.run_bind, Sem.run_pure, Result.andThen_ok, List.map_toArray, List.map_cons, List.map_nil, hs, hx, hrun]
 exact hK _ _ (h A' c' w' h3 h4 h5 h7 h6)
end
section
open Go Go.RowKit Go.Maps
theorem append_eq (S : Sd) (s b : List UInt8) : S.append s b = if (S.call [s]).2 ≠ 0 then S.call [s] else match S.names.get s with
  | none => ((S.call [s]).1, 11)
  | some i => if 250000 < b.length ∨ 250000 < S.size i + b.length then ((S.call [s]).1, 2) else if S.quota < S.used + b.length then ((S.call [s]).1, 15)
   else ({ (S.call [s]).1 with files := S.files.set i ((S.files.getD i ([], 0)).1 ++ b, (S.files.getD i ([], 0)).2) }, 0) := rfl
theorem Row.chg_not {w w' : World} {B n size : Nat} {A : Option Addr} {xs : List Value} {G : List Nat} (r : Row B w A n size xs) (h : Chg G w w') (hB : B ≤ w.heap.size) (hF : ∀ a, A = some a → a.block ∉ G) : Row w'.heap.size w' A n size xs :=
 (h.row r hB hF).up (Nat.le_trans hB h.size)
theorem DK.drew {w : World} {X : Dw} {S : Sd} (h : DK w X S) : DK w.drew X S := h.chg ((Chg.refl [] w).drew) (fun g hg => by cases hg)
theorem upd_app {w w4 : World} {X : Dw} {S : Sd} (h : DK w X S) {i : Nat} (hi : i < S.files.length) (hip : i < X.ps.length) {b : List UInt8} {v : Value} (hg : w.grownBy w4 (X.ps[i]).2.ownBlock)
  (hown : w4.ownsRow 0 5 1 v ((S.files[i]).1.length + b.length) (bts (S.files[i]).1 ++ bts b)) (hob : v.ownBlock = (X.ps[i]).2.ownBlock ∨ v.ownBlock = some w.heap.size) :
  (w4.cell? ⟨(X.ps[i]).1, 0, none⟩ = some (X.ps[i]).2 ∧ w4.frozen? ⟨(X.ps[i]).1, 0, none⟩ = false) ∧ Upd X w (w4.setCell ⟨(X.ps[i]).1, 0, none⟩ v) { S with files := S.files.set i ((S.files[i]).1 ++ b, (S.files[i]).2) } := by
 have hfile := h.file i hi hip
 have hself := h.apart.self _ (List.getElem_mem hip)
 have hv : ∀ g, v.ownBlock = some g → (X.ps[i]).2.ownBlock = some g ∨ w.heap.size ≤ g := fun g e => by
  rcases hob with h1 | h1
  ·exact .inl (by rw [← h1, e])
  ·rw [e] at h1
   injection h1 with h1
   exact .inr (by omega)
 have key := fun (w2 : World) (hf : FileAt w2 ((X.ps[i]).1, v) ((S.files[i]).1 ++ b, (S.files[i]).2)) (c : Chg (fileFoot X.ps[i]) w w2) => DK.setFile h hip hf c hv
 have hfo := foot_set hip hv
 have hffo := fun g hg => file_foot (X := X) (i := i) hip (g := g) hg
 generalize S.files[i] = f at *
 generalize X.ps[i] = p at *
 obtain ⟨hfb, hfr⟩ := hfile
 have hc1 : Chg p.2.ownBlock.toList w w4 := Chg.of_grown hg (fun b e => by simp [e])
 have hfb4 := hfb.chg hc1 (fun hm => hself (by simpa using hm))
 have hset := hfb4.store 0 v
 have hcs := chg_set w4 ⟨p.1, 0, none⟩ v
 have hvp : ∀ g, v.ownBlock = some g → g ≠ p.1 := fun g e e2 => by
  subst e2
  rcases hv _ e with h1 | h1
  ·exact hself h1
  ·have := hfb.lt
   omega
 have hrow := own_chg hown hcs (fun g e hg => hvp g e (by simpa using hg))
 have hcm : Chg (fileFoot p) w (w4.setCell ⟨p.1, 0, none⟩ v) := (hc1.mono (G := fileFoot p) (fun g hg => .inl (by simp only [fileFoot, List.mem_cons]; exact .inr hg))).setCell v (.inl (by simp [fileFoot]))
 have hdk := key _ ⟨hset, by simpa [bts_append] using hrow⟩ hcm
 have e0 := hfb4.cell 0
 simp only [gE0] at e0
 exact ⟨⟨e0, hfb4.free 0⟩, ⟨{ X with ps := X.ps.set i (p.1, v) }, rfl, hdk, hcm.mono (fun g hg => .inl (hffo g hg)), hfo⟩⟩
theorem append_any (X : Dw) (S : Sd) (s : ByteArray) (hs : s.size ≤ maxLen) (A : Option Addr) (m c : Nat) (b : List UInt8) (hm : m ≤ 1099511627776) (hw : S.Wf) (w : World) (h : DK w X S) (hr : Row w.heap.size w A m 1 (bts b)) (hA : ∀ a, A = some a → a.block ≠ X.d) :
  Calls Tryz.prog 84 #[.pointer (some ⟨X.d, 0, none⟩), .string s, .slice A m c] w fun e w' => e = .returned (.int .i64 ((S.append s.data.toList b).2 : Int)) ∧ Upd X w w' (S.append s.data.toList b).1 := by
 have hcall := call1 X S s hs hw w h
 have hw1 := hw.call [s.data.toList]
 have hbl : b.length = m := hr.btlen
 obtain ⟨e1, e2, e3, e4, e5, _, _⟩ := Sd.call_same S [s.data.toList]
 have e6 := Sd.call_used S [s.data.toList]
 have hsy := append_eq S s.data.toList b
 generalize S.call [s.data.toList] = R at *
 obtain ⟨S1, er⟩ := R
 simp only at *
 by_cases h0 : er = 0
 ·subst h0
  rw [if_neg (by simp)] at hsy
  have hfd := fun w1 h1 => find_any X S1 s hs w1 h1 hw1.names
  cases h3 : S.names.get s.data.toList with
  | none =>
   simp only [h3] at hsy
   rw [hsy]
   simp only [e1, h3] at hfd
   clear hsy h3 e1 e2 e3 e4 e5 e6 hw1 hw h hbl
   go_enter Tryz.func84, Tryz.ntmps84
   go_wp2_with fail
   refine hcall.mono ?_
   rintro e w1 ⟨rfl, h1, hc1⟩
   go_wp2_with fail
   refine (hfd w1 h1).mono ?_
   rintro e w2 ⟨rfl, rfl⟩
   go_wp2
   go_ret
   exact ⟨rfl, Upd.called h1 hc1⟩
  | some i =>
   simp only [h3] at hsy
   simp only [e1, h3] at hfd
   have hi : i < S1.files.length := by rw [e3]; exact hw.names _ (Nm.get_mem h3)
   have hsz : S.size i = (S1.files[i]).1.length := by simp [Sd.size, ← e3, List.getD_eq_getElem?_getD, hi]
   have hgd : S.files.getD i ([], 0) = S1.files[i] := by simp [← e3, List.getD_eq_getElem?_getD, hi]
   have hlen := (hw1.file i hi).2
   have hus := Sd.used_le hw1
   have hq := hw1.quota
   rw [hgd, hsz, ← e3, ← e5, ← e6, hbl] at hsy
   obtain ⟨p, hp⟩ : ∃ p, p = X.ps.getD i (0, Go.undef) := ⟨_, rfl⟩
   rw [← hp] at hfd
   have hE : ∀ (w1 : World) (h1 : DK w1 X S1), ∃ fA fc, p.2 = .slice fA (S1.files[i]).1.length fc ∧ w1.cell? ⟨p.1, 0, none⟩ = some (.slice fA (S1.files[i]).1.length fc) := fun w1 h1 => by
    have hip : i < X.ps.length := by rw [h1.flen]; exact hi
    have hptr : X.ps.getD i (0, Go.undef) = X.ps[i] := by simp [List.getD_eq_getElem?_getD, hip]
    obtain ⟨hfb, hfr⟩ := h1.file i hi hip
    obtain ⟨fA, fc, hfv, _⟩ := own_form hfr
    have e0 := hfb.cell 0
    simp only [gE0] at e0
    rw [hp, hptr]
    exact ⟨fA, fc, hfv, by rw [e0, hfv]⟩
   by_cases hlong : 250000 < m ∨ 250000 < (S1.files[i]).1.length + m
   ·rw [if_pos hlong] at hsy
    rw [hsy]
    have HE := Lib.hid hE
    clear hp hE hsy hsz hgd h3 e1 e2 e3 e4 e5 e6 hw hbl h hus hq
    generalize (S1.files[i]).1.length = F at *
    by_cases hl1 : 250000 < m
    ·have hl1' : (250000 : Int) < (m : Int) := by omega
     go_enter Tryz.func84, Tryz.ntmps84
     go_wp2_with fail
     refine hcall.mono ?_
     rintro e w1 ⟨rfl, h1, hc1⟩
     go_wp2_with fail
     refine (hfd w1 h1).mono ?_
     rintro e w2 ⟨rfl, rfl⟩
     unfold ptrV
     go_wp2
     go_ret
     exact ⟨rfl, Upd.called h1 hc1⟩
    ·have hl1' : ((250000 : Int) < (m : Int)) = False := by simp; omega
     have hl2' : (250000 : Int) - (m : Int) < (F : Int) := by omega
     go_enter Tryz.func84, Tryz.ntmps84
     go_wp2_with fail
     refine hcall.mono ?_
     rintro e w1 ⟨rfl, h1, hc1⟩
     go_wp2_with fail
     refine (hfd w1 h1).mono ?_
     rintro e w2 ⟨rfl, rfl⟩
     obtain ⟨fA, fc, _, e0⟩ := HE.out w1 h1
     unfold ptrV
     go_wp2
     go_ret
     exact ⟨rfl, Upd.called h1 hc1⟩
   ·rw [if_neg hlong] at hsy
    have hl1' : ((250000 : Int) < (m : Int)) = False := by simp; omega
    have hl2' : ((250000 : Int) - (m : Int) < ((S1.files[i]).1.length : Int)) = False := by simp; omega
    have hsub : (250000 : Int) - (m : Int) ≤ 250000 := by omega
    have hm' : m ≤ 250000 := by omega
    have hip : ∀ w1, DK w1 X S1 → i < X.ps.length := fun w1 h1 => by rw [h1.flen]; exact hi
    have hfin : ∀ (w1 w4 : World) (v : Value) (h1 : DK w1 X S1) (hg : w1.grownBy w4 p.2.ownBlock) (hown : w4.ownsRow 0 5 1 v ((S1.files[i]).1.length + m) (bts (S1.files[i]).1 ++ bts b)) (hob : v.ownBlock = p.2.ownBlock ∨ v.ownBlock = some w1.heap.size),
      (w4.cell? ⟨p.1, 0, none⟩ = some p.2 ∧ w4.frozen? ⟨p.1, 0, none⟩ = false) ∧ Upd X w1 (w4.setCell ⟨p.1, 0, none⟩ v) { S1 with files := S1.files.set i ((S1.files[i]).1 ++ b, (S1.files[i]).2) } := fun w1 w4 v h1 hg hown hob => by
     have hptr : p = X.ps[i]'(hip w1 h1) := by rw [hp]; simp [List.getD_eq_getElem?_getD, hip w1 h1]
     rw [hptr] at hg hob ⊢
     exact upd_app h1 hi (hip w1 h1) hg (by rw [hbl]; exact hown) hob
    have hrow : ∀ w1, DK w1 X S1 → w1.ownsRow 0 5 1 p.2 (S1.files[i]).1.length (bts (S1.files[i]).1) := fun w1 h1 => by
     have hptr : p = X.ps[i]'(hip w1 h1) := by rw [hp]; simp [List.getD_eq_getElem?_getD, hip w1 h1]
     rw [hptr]
     exact (h1.file i hi (hip w1 h1)).row
    have HE := Lib.hid hE
    have HFIN := Lib.hid hfin
    have HROW := Lib.hid hrow
    have huse := fun w1 h1 => used_any X S1 w1 h1 hw1.names (Nat.le_trans hus (by omega))
    clear hE hp hfin hrow hsz hgd h3 e1 e2 e3 e4 e5 e6 hw hbl h hlong hip
    have hqd : ∀ w1, DK w1 X S1 → w1.cell? ⟨X.d, 0, none⟩ = some (.int .i64 (S1.quota : Int)) := fun w1 h1 => by rw [h1.box.cell 0]; rfl
    have HQD := Lib.hid hqd
    clear hqd
    obtain ⟨i0, hi0, hz0, hz1, hz2⟩ := info_parts info_u8
    have hq1 : IntKind.i64.wrap ((S1.quota : Int) - (m : Int)) = (S1.quota : Int) - (m : Int) := by
     have hb : -9223372036854775808 ≤ (S1.quota : Int) - (m : Int) ∧ (S1.quota : Int) - (m : Int) ≤ 9223372036854775807 := by omega
     rw [IntKind.wrap_i64]
     have hw := IntWalk.wrap64_in _ hb
     unfold wrap64 at hw
     exact hw
    have HQ1 := Lib.hid hq1
    clear hq1
    by_cases hqf : S1.quota < S1.used + m
    ·rw [if_pos hqf] at hsy
     rw [hsy]
     have hqf' : (S1.quota : Int) - (m : Int) < (S1.used : Int) := by omega
     clear hsy hqf
     generalize (S1.files[i]).1.length = F at *
     go_enter Tryz.func84, Tryz.ntmps84
     go_wp2_with fail
     refine hcall.mono ?_
     rintro e w1 ⟨rfl, h1, hc1⟩
     go_wp2_with fail
     refine (hfd w1 h1).mono ?_
     rintro e w2 ⟨rfl, rfl⟩
     obtain ⟨fA, fc, hpv, e0⟩ := HE.out w1 h1
     have q0 := HQD.out w1 h1
     have hUSE := Lib.hid huse
     clear huse hpv
     unfold ptrV
     go_wp2
     have hq1 := HQ1.out
     go_region_with ((go_at_call 159; refine (hUSE.out _ h1.drew).mono ?_; rintro e w2 ⟨rfl, hb2⟩; have q0 := HQD.out w2 (h1.drew.below hb2)))
     all_goals
      have hfinal : Upd X w w2 S1 := Upd.called (h1.drew.below hb2) (hc1.trans ((Chg.refl [X.d] w1).drew.trans (Chg.of_below hb2 [X.d]) (fun g hg => .inl hg)) (fun g hg => .inl hg))
      clear q0
      go_wp2
      go_ret
      exact ⟨rfl, hfinal⟩
    ·rw [if_neg hqf] at hsy
     rw [hsy]
     have hqf' : ((S1.quota : Int) - (m : Int) < (S1.used : Int)) = False := by simp; omega
     clear hsy hqf
     obtain ⟨f, hf⟩ : ∃ f, f = S1.files[i] := ⟨_, rfl⟩
     rw [← hf] at HROW HFIN HE hl2' hlen ⊢
     clear hf
     go_enter Tryz.func84, Tryz.ntmps84
     go_wp2_with fail
     refine hcall.mono ?_
     rintro e w1 ⟨rfl, h1, hc1⟩
     go_wp2_with fail
     refine (hfd w1 h1).mono ?_
     rintro e w2 ⟨rfl, rfl⟩
     obtain ⟨fA, fc, hpv, e0⟩ := HE.out w1 h1
     have HPV := Lib.hid hpv
     have q0 := HQD.out w1 h1
     have hUSE := Lib.hid huse
     have hrA := Lib.hid (Row.chg_not hr hc1 (Nat.le_refl _) (fun a e hg => hA a e (by simpa using hg)))
     clear huse hpv
     unfold ptrV
     go_wp2
     have hq1 := HQ1.out
     go_region_with ((go_at_call 159; refine (hUSE.out _ h1.drew).mono ?_; rintro e w2 ⟨rfl, hb2⟩; have q0 := HQD.out w2 (h1.drew.below hb2)))
     all_goals
      have h2 := h1.drew.below hb2
      have hc2 : Chg [X.d] w w2 := hc1.trans ((Chg.refl [X.d] w1).drew.trans (Chg.of_below hb2 [X.d]) (fun g hg => .inl hg)) (fun g hg => .inl hg)
      have hr2 := Lib.hid ((hrA.out.drew.below hb2).arg (Nat.le_trans (by simp) hb2.size))
      have e2 : w2.cell? ⟨p.1, 0, none⟩ = some (.slice fA f.1.length fc) := by
       obtain ⟨fA', fc', h7, h8⟩ := HE.out w2 h2
       rw [h8, ← h7, HPV.out]
      have hrw := HROW.out w2 h2
      rw [HPV.out] at hrw
      have HRW := Lib.hid hrw
      have hfn := fun w4 v => HFIN.out w2 w4 v h2
      rw [HPV.out] at hfn
      have HFN := Lib.hid hfn
      clear q0 e0 hrw hfn hrA hq1 hl2'
      go_wp2_with (at_builtin; refine stop_in ?_)
      refine stop_out (wpList_appG rfl (.tmp 52) (.tmp 53) _ rfl 0 5 i0 _ 1 1 Tryz.underlying121 hi0 hz0 hz1 hz2 rfl (by omega) (Nat.zero_le _) (.slice fA f.1.length fc) f.1.length _ rfl HRW.out _ A m c (bts b) rfl hr2.out (bts_one _) (f.1.length + m) _ rfl rfl (by unfold maxLen; omega) (by omega) ?_)
      intro A4 c4 w4 hown4 hg4 _ _ hob4
      obtain ⟨⟨q4, q5⟩, hup⟩ := HFN.out _ _ hg4 hown4 hob4
      have HU := Lib.hid (Upd.after hc2 hup)
      clear hown4 hg4 hob4 HRW HFN hup e2
      go_wp2
      go_ret
      exact ⟨rfl, HU.out⟩
 ·have hne := neq0 h0
  rw [if_pos h0] at hsy
  rw [hsy]
  clear hsy e1 e2 e3 e4 e5 h0 e6
  go_enter Tryz.func84, Tryz.ntmps84
  go_wp2_with fail
  refine hcall.mono ?_
  rintro e w1 ⟨rfl, h1, hc1⟩
  go_wp2
  go_ret
  exact ⟨rfl, Upd.called h1 hc1⟩
end
section
open Go Go.RowKit Go.Shelf
structure Dm (w : World) (X : Dw) (S : Sd) : Prop where
 dk : DK w X S
 wf : S.Wf
 env : Env w
 base : ∀ g ∈ X.foot, NG ≤ g
theorem Dm.below {w w' : World} {X : Dw} {S : Sd} (h : Dm w X S) (hb : Below w.heap.size w w') : Dm w' X S := ⟨h.dk.below hb, h.wf, h.env.below hb, h.base⟩
theorem Dm.chg {w w' : World} {X : Dw} {S : Sd} {G : List Nat} (h : Dm w X S) (c : Chg G w w') (hG : ∀ g ∈ G, g ∉ X.foot ∧ NG ≤ g) : Dm w' X S := ⟨h.dk.chg c (fun g hg => (hG g hg).1), h.wf, h.env.chg c (fun g hg => (hG g hg).2), h.base⟩
def UpdM (X : Dw) (w w' : World) (S' : Sd) : Prop := ∃ X', X'.d = X.d ∧ Dm w' X' S' ∧ Chg X.foot w w' ∧ ∀ g ∈ X'.foot, g ∈ X.foot ∨ w.heap.size ≤ g
theorem Dm.upd {w w' : World} {X : Dw} {S S' : Sd} (h : Dm w X S) (hw : S'.Wf) (hu : Upd X w w' S') : UpdM X w w' S' := by
 obtain ⟨X', e, hd, hc, hf⟩ := hu
 have hb := h.env.base
 exact ⟨X', e, ⟨hd, hw, h.env.chg hc h.base, fun g hg => by
  rcases hf g hg with h1 | h1
  ·exact h.base g h1
  ·omega⟩, hc, hf⟩
theorem UpdM.same {w w' : World} {X : Dw} {S : Sd} (h : Dm w X S) (hb : Below w.heap.size w w') : UpdM X w w' S := ⟨X, rfl, h.below hb, Chg.of_below hb _, fun _ hg => .inl hg⟩
theorem UpdM.trans {w w1 w2 : World} {X X1 : Dw} {S2 : Sd} (e : X1.d = X.d) (c : Chg X.foot w w1) (hf : ∀ g ∈ X1.foot, g ∈ X.foot ∨ w.heap.size ≤ g) (h2 : UpdM X1 w1 w2 S2) : UpdM X w w2 S2 := by
 obtain ⟨X', e', h, c', hf'⟩ := h2
 refine ⟨X', e'.trans e, h, c.trans c' (fun g hg => hf g hg), fun g hg => ?_⟩
 rcases hf' g hg with h3 | h3
 ·exact hf g h3
 ·exact .inr (Nat.le_trans c.size h3)
theorem list_named {S : Sd} (hw : S.Wf) : ∀ s ∈ S.list, Sd.named s = true := by
 intro s hs
 unfold Sd.list at hs
 split at hs
 ·cases hs
 ·rw [List.mem_mergeSort] at hs
  obtain ⟨p, hp, rfl⟩ := List.mem_map.1 hs
  exact hw.gnames p hp
theorem named_len {s : List UInt8} (h : Sd.named s = true) : 1 ≤ s.length ∧ s.length ≤ 16 := by
 simp only [Sd.named, Bool.and_eq_true, decide_eq_true_eq] at h
 exact h.1
theorem list_len {S : Sd} (hw : S.Wf) : S.list.length ≤ 64 := by
 unfold Sd.list
 split
 ·simp
 ·rw [List.length_mergeSort, List.length_map]; exact hw.most
theorem Row.enc {B n : Nat} {w : World} {A : Option Addr} {ss : List (List UInt8)} (h : Row B w A n 1 (ss.map Go.Proofs.encStr)) {k : Nat} (hk : k < n) : ∃ a, ∃ hl : k < ss.length, A = some a ∧ a.block < B ∧ w.cell? (a.add k) = some (.string (str ss[k])) := by
 obtain ⟨a, v, e, hb, hv, hc⟩ := h.at1 hk
 have hl : k < ss.length := by
  have := h.len
  simp at this
  omega
 rw [List.getElem?_map, List.getElem?_eq_getElem hl] at hv
 injection hv with hv
 subst hv
 exact ⟨a, hl, e, hb, hc⟩
theorem greatest_any (X : Dw) (S : Sd) (k : ByteArray) (hk : k.size ≤ 1000) (w : World) (h : Dm w X S) :
  Calls Tryz.prog 144 #[.pointer (some ⟨X.d, 0, none⟩), .string k] w fun e w' => e = .returned (.int .i64 (Mn.greatest S.list k.data.toList)) ∧ Below w.heap.size w w' := by
 have hl := dlist_any X S h.wf w h.dk
 have hnm := list_named h.wf
 have hlen := list_len h.wf
 obtain ⟨L, hL⟩ : ∃ L, L = S.list := ⟨_, rfl⟩
 rw [← hL] at hl hnm hlen ⊢
 clear hL
 have HNM := Lib.hid hnm
 clear hnm
 obtain ⟨R, hR⟩ : ∃ R, R = Mn.greatest L k.data.toList := ⟨_, rfl⟩
 rw [← hR]
 have HR := Lib.hid hR
 clear hR
 go_enter Tryz.func144, Tryz.ntmps144
 go_wp2_with fail
 refine hl.mono ?_
 rintro e w1 ⟨A, c, rfl, hown, hb1⟩
 have hrow := Row.own hown
 have hcap : L.length ≤ c := by
  obtain ⟨A', c', e, h1, _⟩ := own_form hown
  injection e with _ e2 e3
  omega
 go_wp2
 go_loopw [5, 13] (fun m i wr => ∃ j : Nat, j ≤ L.length ∧ i = .int .i64 (j : Int) ∧ m = .int .i64 (Mn.greatest (L.take j) k.data.toList) ∧ Below w.heap.size w wr ∧ Below w1.heap.size w1 wr) (fun _ i _ => L.length - (intOf i).toNat)
 case atStart => exact ⟨0, Nat.zero_le _, rfl, rfl, hb1, Below.refl _ _⟩
 case round =>
  obtain ⟨j, hj, rfl, rfl, hbw, hb1w⟩ := hrel
  by_cases hlt : j < L.length
  ·have hrow' := (hrow.below hb1w)
   obtain ⟨a, hl', rfl, _, hcl⟩ := hrow'.enc hlt
   have hsn := HNM.out _ (List.getElem_mem hl')
   have hsl := named_len hsn
   have HT := Lib.hid (Mn.greatest_take hl' k.data.toList)
   have hnum := number_any (str L[j]) k (by rw [str_size]; omega) hk wr (h.env.below hbw)
   rw [list_str] at hnum
   generalize L[j] = s at *
   go_wp2_with fail
   refine hnum.mono ?_
   rintro e w2 ⟨rfl, hb2⟩
   have hb3 := hbw.trans (hb2.mono hbw.size)
   have hb4 := hb1w.trans (hb2.mono hb1w.size)
   cases hns : Mn.number s k.data.toList with
   | none =>
    rw [hns] at HT
    unfold numV
    generalize hG : Mn.greatest (L.take j) k.data.toList = G at *
    clear hnum hcl hrow'
    go_wp2
    go_roundw
    case rel => exact ⟨j + 1, by omega, by go_num, by rw [HT.out]; simp, hb3, hb4⟩
    case measure => simp [intOf]; omega
   | some v =>
    rw [hns] at HT
    unfold numV
    generalize hG : Mn.greatest (L.take j) k.data.toList = G at *
    clear hnum hcl hrow'
    go_wp2
    go_roundw
    case rel => exact ⟨j + 1, by omega, by go_num, by rw [HT.out]; simp, hb3, hb4⟩
    case measure => simp [intOf]; omega
  ·have e1 : L.take j = L := List.take_of_length_le (by omega)
   rw [e1, ← show R = _ from HR.out]
   go_wp2
   go_ret
   exact ⟨rfl, hbw⟩
theorem write_any (X : Dw) (S : Sd) (s : ByteArray) (hs : s.size ≤ maxLen) (A : Option Addr) (m c : Nat) (b : List UInt8) (hm : m ≤ 1099511627776) (hl : S.load ≤ 1099511627776) (w : World) (h : Dm w X S) (hr : Row w.heap.size w A m 1 (bts b)) (hA : ∀ a, A = some a → a.block ∉ X.foot) :
  Calls Tryz.prog 199 #[.pointer (some ⟨X.d, 0, none⟩), .string s, .slice A m c] w fun e w' => e = .returned (.int .i64 ((S.write s.data.toList b).2 : Int)) ∧ UpdM X w w' (S.write s.data.toList b).1 := by
 have hcr := create_any X S s hs h.wf hl w h.dk
 have hw1 := h.wf.create s.data.toList
 have hup1 := fun w1 (hu : Upd X w w1 (S.create s.data.toList).1) => h.upd hw1 hu
 have hsy : S.write s.data.toList b = if (S.create s.data.toList).2 ≠ 0 then S.create s.data.toList else if ((S.create s.data.toList).1.append s.data.toList b).2 ≠ 0 then (S.create s.data.toList).1.append s.data.toList b
  else ((S.create s.data.toList).1.append s.data.toList b).1.sync s.data.toList := rfl
 generalize S.create s.data.toList = R1 at *
 obtain ⟨S1, e1⟩ := R1
 simp only at *
 by_cases h0 : e1 = 0
 ·subst h0
  rw [if_neg (by simp)] at hsy
  have hw2 := hw1.append s.data.toList b
  have hap := fun X1 w1 (h1 : DK w1 X1 S1) hr1 hA1 => append_any X1 S1 s hs A m c b hm hw1 w1 h1 hr1 hA1
  generalize S1.append s.data.toList b = R2 at *
  obtain ⟨S2, e2⟩ := R2
  simp only at *
  by_cases h1 : e2 = 0
  ·subst h1
   rw [if_neg (by simp)] at hsy
   have hw3 := hw2.sync s.data.toList
   have hsn := fun X1 w1 (h1 : DK w1 X1 S2) => sync_any X1 S2 s hs hw2 w1 h1
   generalize S2.sync s.data.toList = R3 at *
   obtain ⟨S3, e3⟩ := R3
   simp only at *
   rw [hsy]
   clear hsy
   have HR := Lib.hid hr
   have HA := Lib.hid hA
   clear hr hA
   go_enter Tryz.func199, Tryz.ntmps199
   go_wp2_with fail
   refine hcr.mono ?_
   rintro e w1 ⟨rfl, hu1⟩
   obtain ⟨X1, ed1, hd1, hc1, hf1⟩ := hup1 w1 hu1
   have hr1 := Row.chg_not HR.out hc1 (Nat.le_refl _) HA.out
   have hA1 : ∀ a, A = some a → a.block ≠ X1.d := fun a ha => by rw [ed1]; exact fun e => HA.out a ha (by rw [e]; exact mem_foot.2 (.inl rfl))
   have hcall2 := hap X1 w1 hd1.dk hr1 hA1
   rw [ed1] at hcall2
   have H2 := Lib.hid hcall2
   clear hcall2 hA1 hap hup1 hu1 hr1
   go_wp2_with fail
   refine H2.out.mono ?_
   rintro e w2 ⟨rfl, hu2⟩
   obtain ⟨X2, ed2, hd2, hc2, hf2⟩ := hd1.upd hw2 hu2
   have hcall3 := hsn X2 w2 hd2.dk
   rw [ed2, ed1] at hcall3
   have H3 := Lib.hid hcall3
   clear hcall3 hsn hu2
   go_wp2_with fail
   refine H3.out.mono ?_
   rintro e w3 ⟨rfl, hu3⟩
   have hfin := UpdM.trans ed1 hc1 hf1 (UpdM.trans ed2 hc2 hf2 (hd2.upd hw3 hu3))
   clear hu3
   go_wp2
   go_ret
   exact ⟨rfl, hfin⟩
  ·have hne := neq0 h1
   rw [if_pos h1] at hsy
   rw [hsy]
   clear hsy
   have HR := Lib.hid hr
   have HA := Lib.hid hA
   clear hr hA h1
   go_enter Tryz.func199, Tryz.ntmps199
   go_wp2_with fail
   refine hcr.mono ?_
   rintro e w1 ⟨rfl, hu1⟩
   obtain ⟨X1, ed1, hd1, hc1, hf1⟩ := hup1 w1 hu1
   have hr1 := Row.chg_not HR.out hc1 (Nat.le_refl _) HA.out
   have hA1 : ∀ a, A = some a → a.block ≠ X1.d := fun a ha => by rw [ed1]; exact fun e => HA.out a ha (by rw [e]; exact mem_foot.2 (.inl rfl))
   have hcall2 := hap X1 w1 hd1.dk hr1 hA1
   rw [ed1] at hcall2
   have H2 := Lib.hid hcall2
   clear hcall2 hA1 hap hup1 hu1 hr1
   go_wp2_with fail
   refine H2.out.mono ?_
   rintro e w2 ⟨rfl, hu2⟩
   have hfin := UpdM.trans ed1 hc1 hf1 (hd1.upd hw2 hu2)
   clear hu2
   go_wp2
   go_ret
   exact ⟨rfl, hfin⟩
 ·have hne := neq0 h0
  rw [if_pos h0] at hsy
  rw [hsy]
  clear hsy h0
  go_enter Tryz.func199, Tryz.ntmps199
  go_wp2_with fail
  refine hcr.mono ?_
  rintro e w1 ⟨rfl, hu1⟩
  have hfin := hup1 w1 hu1
  clear hu1 hup1
  go_wp2
  go_ret
  exact ⟨rfl, hfin⟩
end
end Go.Proofs.YtdkjoigpahafmaaGreatDoor
