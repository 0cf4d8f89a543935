/- Texts DiskH, StepB, DiskI, ManB, Once, OnceB, ManC in one. No conditions. -/
import Derived.Test.YtdkjoigpahafmaaGreatDoorBunAA
import Derived.Test.YtdkjoigpahafmaaGreatDoorBunAK
import Derived.Test.YtdkjoigpahafmaaGreatDoorBunAC
import Derived.Deep.RegionWith
import Derived.Test.YtdkjoigpahafmaaGreatDoorBunAD
import Derived.Test.YtdkjoigpahafmaaGreatDoorRows
import Derived.Tactics
import Derived.Tactics2
import Derived.Defers
import Derived.Laws.Pointers
import Derived.Laws.LoneSync
import Derived.Laws.NewBlocks
import Derived.RegionTactic
import Derived.RegionCalls
import Derived.ChangeAlike

set_option linter.unusedSimpArgs false
set_option linter.unusedVariables false
set_option maxRecDepth 100000
set_option maxHeartbeats 16000000
namespace Go.Proofs.YtdkjoigpahafmaaGreatDoor
section
open Go Go.RowKit Go.Maps
theorem info_pfile : (Tryz.prog.info? 120).map (fun i => (i.zero, i.size, i.bytes)) = some (some (.pointer none), 1, 8) := by kernel_rfl
theorem create_eq (S : Sd) (s : List UInt8) : S.create s = if (S.call [s]).2 ≠ 0 then S.call [s] else if (S.names.get s).isSome then ((S.call [s]).1, 12) else if 64 ≤ S.names.length then ((S.call [s]).1, 65)
  else ({ (S.call [s]).1 with names := S.names.put s S.files.length, turns := S.turns ++ [⟨1, S.files.length, s, []⟩], files := S.files ++ [([], 0)] }, 0) := rfl
def fileBox (w : World) : World := (w.alloc (.cells #[.slice none 0 0, .int .i64 0] 123)).alloc (.cells #[.pointer (some ⟨w.heap.size, 0, none⟩)] 120)
theorem fileBox_size (w : World) : (fileBox w).heap.size = w.heap.size + 2 := by simp [fileBox]
theorem fileBox_below (w : World) : Below w.heap.size w (fileBox w) := ((Below.refl _ _).alloc (Nat.le_refl _) _).alloc (by simp) _
theorem fileBox_grown {w w4 : World} {X : Dw} {S : Sd} (h : DK w X S) (hg : (fileBox w).grownBy w4 X.fv.ownBlock) : BoxO w4 105 X.d (X.cells S) :=
 (h.box.below (fileBox_below w)).chg (Chg.of_grown (F := X.fv.ownBlock.toList) hg (fun b e => by simp [e])) (fun hm => (h.apart.fv _ (by simpa using hm)).1 rfl)
theorem upd_file {w w4 : World} {X : Dw} {S : Sd} (h : DK w X S) {v : Value} (hg : (fileBox w).grownBy w4 X.fv.ownBlock) (hown : w4.ownsRow 0 120 1 v (S.files.length + 1) (X.ps.map ptrV ++ [.pointer (some ⟨w.heap.size, 0, none⟩)]))
  (hob : v.ownBlock = X.fv.ownBlock ∨ v.ownBlock = some (fileBox w).heap.size) : Upd X w (w4.setCell ⟨X.d, 1, none⟩ v) { S with files := S.files ++ [([], 0)] } := by
 have hbox := fileBox_grown h hg
 have ha := h.apart
 have hsz := fileBox_size w
 have hlt := h.lt
 have hvd : ∀ g, v.ownBlock = some g → g ≠ X.d ∧ g ≠ w.heap.size := fun g e => by
  rcases hob with h1 | h1
  ·have h2 := (ha.fv g (by rw [← h1, e])).1
   have h3 := hlt g (mem_foot.2 (.inr (.inr (.inr (.inl (by rw [← h1, e]))))))
   exact ⟨h2, by omega⟩
  ·rw [e] at h1
   injection h1 with h1
   have := h.box.lt
   exact ⟨by omega, by omega⟩
 have hc1 : Chg X.fv.ownBlock.toList w w4 := (Chg.of_below (fileBox_below w) _).trans (Chg.of_grown (F := X.fv.ownBlock.toList) hg (fun b e => by simp [e])) (fun g hg => .inl hg)
 have hc2 : Chg ([X.d] ++ X.fv.ownBlock.toList) w (w4.setCell ⟨X.d, 1, none⟩ v) := (hc1.mono (fun g hg => .inl (List.mem_append_right _ hg))).setCell v (.inl (by simp))
 have hv : ∀ g, v.ownBlock = some g → X.fv.ownBlock = some g ∨ w.heap.size ≤ g := fun g e => by
  rcases hob with h1 | h1
  ·exact .inl (by rw [← h1, e])
  ·rw [e] at h1
   injection h1 with h1
   exact .inr (by omega)
 have hfb0 : BoxO (w.alloc (.cells #[.slice none 0 0, .int .i64 0] 123)) 123 w.heap.size [.slice none 0 0, .int .i64 0] := BoxO.new _ _ _
 have hfb1 : BoxO (fileBox w) 123 w.heap.size [.slice none 0 0, .int .i64 0] := hfb0.alloc _
 have hfb : BoxO w4 123 w.heap.size [.slice none 0 0, .int .i64 0] := hfb1.chg (Chg.of_grown (F := X.fv.ownBlock.toList) hg (fun b e => by simp [e])) (fun hm => by
  have := hlt w.heap.size (mem_foot.2 (.inr (.inr (.inr (.inl (by simpa using hm))))))
  omega)
 have hdk := DK.addFile (w' := w4.setCell ⟨X.d, 1, none⟩ v) (fv := v) (b := w.heap.size) h (by
   have h1 := own_chg hown (chg_set w4 ⟨X.d, 1, none⟩ v) (fun g e hg => (hvd g e).1 (by simpa using hg))
   simpa [ptrV] using h1) (Nat.le_refl _) (fun e => (hvd _ e).2 rfl) (hfb.chg (chg_set w4 ⟨X.d, 1, none⟩ v) (fun hm => by
    have := h.box.lt
    simp at hm
    omega)) hc2 hv (by
   have h1 := hbox.store 1 v
   exact h1)
 refine ⟨{ X with fv := v, ps := X.ps ++ [(w.heap.size, Value.slice none 0 0)] }, rfl, hdk, hc2.mono (fun g hg => .inl ?_), fun g hg => ?_⟩
 ·rcases List.mem_append.1 hg with h1 | h1
  ·rw [List.mem_singleton.1 h1]; exact mem_foot.2 (.inl rfl)
  ·exact mem_foot.2 (.inr (.inr (.inr (.inl (by simpa using h1)))))
 ·rcases mem_foot.1 hg with h1 | h1 | h1 | h1 | h1 | ⟨p, hp, hgp⟩
  ·exact .inl (mem_foot.2 (.inl h1))
  ·exact .inl (mem_foot.2 (.inr (.inl h1)))
  ·exact .inl (mem_foot.2 (.inr (.inr (.inl h1))))
  ·rcases hv g h1 with h2 | h2
   ·exact .inl (mem_foot.2 (.inr (.inr (.inr (.inl h2)))))
   ·exact .inr h2
  ·exact .inl (mem_foot.2 (.inr (.inr (.inr (.inr (.inl h1))))))
  ·rcases List.mem_append.1 hp with hp | hp
   ·exact .inl (mem_foot.2 (.inr (.inr (.inr (.inr (.inr ⟨p, hp, hgp⟩))))))
   ·rw [List.mem_singleton.1 hp] at hgp
    simp [fileFoot, Value.ownBlock] at hgp
    exact .inr (by omega)
theorem create_any (X : Dw) (S : Sd) (s : ByteArray) (hs : s.size ≤ maxLen) (hw : S.Wf) (hl : S.load ≤ 1099511627776) (w : World) (h : DK w X S) :
  Calls Tryz.prog 172 #[.pointer (some ⟨X.d, 0, none⟩), .string s] w fun e w' => e = .returned (.int .i64 ((S.create s.data.toList).2 : Int)) ∧ Upd X w w' (S.create s.data.toList).1 := by
 have hcall := call1 X S s hs hw w h
 have hw1 := hw.call [s.data.toList]
 have hld := Sd.call_load S [s.data.toList]
 obtain ⟨e1, e2, e3, e4, e5, _, _⟩ := Sd.call_same S [s.data.toList]
 have hsy := create_eq S s.data.toList
 generalize S.call [s.data.toList] = R at *
 obtain ⟨S1, er⟩ := R
 simp only at *
 by_cases h0 : er = 0
 ·subst h0
  rw [if_neg (by simp)] at hsy
  have hfd := fun w1 h1 => find_any X S1 s hs w1 h1 hw1.names
  cases h3 : S.names.get s.data.toList with
  | some i =>
   simp only [h3, Option.isSome_some, if_true] at hsy
   rw [hsy]
   simp only [e1, h3] at hfd
   clear hsy h3 e1 e2 e3 e4 e5 hw1 hw h hld
   go_enter Tryz.func172, Tryz.ntmps172
   go_wp2_with fail
   refine hcall.mono ?_
   rintro e w1 ⟨rfl, h1, hc1⟩
   go_wp2_with fail
   refine (hfd w1 h1).mono ?_
   rintro e w2 ⟨rfl, rfl⟩
   unfold ptrV
   go_wp2
   go_ret
   exact ⟨rfl, Upd.called h1 hc1⟩
  | none =>
   simp only [h3, Option.isSome_none, Bool.false_eq_true, if_false] at hsy
   simp only [e1, h3] at hfd
   by_cases hm : 64 ≤ S.names.length
   ·rw [if_pos hm] at hsy
    rw [hsy]
    have hm1 : (64 : Int) ≤ (S1.names.length : Int) := by rw [e1]; omega
    clear hsy h3 e1 e2 e3 e4 e5 hw h hld hm
    go_enter Tryz.func172, Tryz.ntmps172
    go_wp2_with fail
    refine hcall.mono ?_
    rintro e w1 ⟨rfl, h1, hc1⟩
    go_wp2_with fail
    refine (hfd w1 h1).mono ?_
    rintro e w2 ⟨rfl, rfl⟩
    have d2 := h1.box.cell 2
    have hn := Lib.hid h1.names
    have hsz := Nm.enc_size S1.names
    simp only [Dw.cells, gE0, gE1] at d2
    go_wp2_with (at_len; refine wpList_len_own _ rfl _ 101 rfl 9 3 Tryz.underlying101 _ X.nb _ _ rfl hn.out ?_; rw [hsz])
    go_wp2
    go_ret
    exact ⟨rfl, Upd.called h1 hc1⟩
   ·rw [if_neg hm] at hsy
    have hm1 : (S1.names.length : Int) < 64 := by rw [e1]; omega
    have hm2 : S1.names.length < maxLen := by unfold maxLen; omega
    rw [hsy, ← e1, ← e4, ← e3]
    have hml : S1.turns.length + 1 ≤ 1099511627777 ∧ S1.files.length + 1 ≤ 1099511627777 := by unfold Sd.load at hld hl; omega
    obtain ⟨hml, hmf⟩ := hml
    clear hsy h3 e1 e2 e3 e4 e5 hw h hld hm
    have hkey := key_s hs
    have HP := Lib.hid (Nm.enc_put S1.names s.data.toList S1.files.length)
    have hwf : (Lit.int .i64 (S1.files.length : Int)).wf = true := WalkArith.wf_i64 (by omega)
    go_enter Tryz.func172, Tryz.ntmps172
    go_wp2_with fail
    refine hcall.mono ?_
    rintro e w1 ⟨rfl, h1, hc1⟩
    go_wp2_with fail
    refine (hfd w1 h1).mono ?_
    rintro e w2 ⟨rfl, rfl⟩
    have d2 := h1.box.cell 2
    have d1 := h1.box.cell 1
    have hn := Lib.hid h1.names
    have hsz := Nm.enc_size S1.names
    obtain ⟨fA, fc, hfv, _, _, _⟩ := own_form h1.files
    simp only [Dw.cells, gE0, gE1] at d2 d1
    rw [hfv] at d1
    go_wp2_with (at_len; refine wpList_len_own _ rfl _ 101 rfl 9 3 Tryz.underlying101 _ X.nb _ _ rfl hn.out ?_; rw [hsz])
    go_wp2
    go_still_tail 10, (by kernel_rfl)
    change wpList _ _ _ _ _ (World.drew w1)
    go_wp2_with (at_mapUpdate; refine wpList_mapUpdate_own _ rfl _ _ _ 101 rfl 9 3 law_s Tryz.underlying101 _ X.nb _ _ rfl hn.out.drew hm2 _ _ _ rfl rfl hkey _ [] (plainElem_int Tryz.underlying3 hwf) ?_; intro w3 hown3 hgrow3)
    rw [HP.out] at hown3
    have hc3 : Chg [X.nb] w1 w3 := (Chg.refl [X.nb] w1).drew.trans (Chg.of_grown (F := [X.nb]) hgrow3 (fun b hb => by cases hb; simp)) (fun g hg => .inl hg)
    have h3 := h1.setNames hown3 hc3
    clear hown3 hgrow3 HP hn d2 d1 hsz
    have d4 := h3.box.cell 4
    have d1 := h3.box.cell 1
    have hxd := h3.box.lt
    obtain ⟨tA, tc, htv, _, _, _⟩ := own_form h3.turns
    simp only [Dw.cells, gE0, gE1] at d4 d1
    rw [htv] at d4
    rw [hfv] at d1
    have hrow4 := own_base h3.turns (Nat.zero_le _)
    rw [htv] at hrow4
    have hpre := fun (o : Obj) (w4 : World) (hg : ((w3.alloc o).drew).grownBy w4 (Value.slice tA S1.turns.length tc).ownBlock) => (⟨(grown_box h3 (by rw [htv]; exact hg)).cell 4, (grown_box h3 (by rw [htv]; exact hg)).free 4⟩ : w4.cell? ⟨X.d, 4, none⟩ = _ ∧ w4.frozen? ⟨X.d, 4, none⟩ = false)
    have hpost := fun (o : Obj) (w4 : World) (v : Value) (hg : ((w3.alloc o).drew).grownBy w4 (Value.slice tA S1.turns.length tc).ownBlock) hown hob => upd_turnD (o := o) (w4 := w4) (v := v) h3 ⟨1, S1.files.length, s.data.toList, []⟩ (by rw [htv]; exact hg) hown (by rw [htv]; exact hob)
    simp only [turnCells, str_list] at hpost
    have HPO := Lib.hid hpost
    have HPR := Lib.hid hpre
    obtain ⟨i0, hi0, hz0, hz1, hz2⟩ := info_parts info_turn
    clear hpost hpre h1 htv
    go_wp2
    go_region_law (refine step_appF rfl (.tmp 39) (.tmp 47) _ rfl 0 125 i0 _ 4 48 Tryz.underlying103 hi0 hz0 hz1 hz2 rfl (by omega) (Nat.zero_le _) (.slice tA S1.turns.length tc) S1.turns.length _ rfl (hrow4.alloc _).drew _ (some ⟨w3.heap.size, 0, none⟩) 1 1 (by omega) [.int .i64 1, .int .i64 (S1.files.length : Int), .string s, .string ⟨#[]⟩] rfl (Row.new w3 #[.int .i64 1, .int .i64 (S1.files.length : Int), .string s, .string ⟨#[]⟩] 125 (n := 1) (size := 4) rfl).drew (by simp [Value.oneCell']) (S1.turns.length + 1) _ rfl rfl (by unfold maxLen; omega) (by omega) ?_; intro A4 c4 w4 hown4 hg4 _ _ hob4; obtain ⟨q4, q5⟩ := HPR.out _ _ hg4; have HO := Lib.hid (HPO.out _ _ _ hg4 hown4 hob4); clear hg4 hown4 hob4; simp only [Dw.cells, gE0, gE1] at q4)
    all_goals
     obtain ⟨h5, hc5, hf5⟩ := HO.out
     clear HO HPO HPR hrow4 d4 d1 q4 q5 h3 hxd
     generalize w4.setCell ⟨X.d, 4, none⟩ (.slice A4 (S1.turns.length + 1) c4) = w5 at *
     have d1 := h5.box.cell 1
     simp only [Dw.cells, gE0, gE1] at d1
     rw [hfv] at d1
     have hrow := h5.files
     have hpre := fun (w6 : World) (hg : (fileBox w5).grownBy w6 (Value.slice fA S1.files.length fc).ownBlock) => (⟨(fileBox_grown h5 (by simp only [hfv]; exact hg)).cell 1, (fileBox_grown h5 (by simp only [hfv]; exact hg)).free 1⟩ : w6.cell? ⟨X.d, 1, none⟩ = _ ∧ w6.frozen? ⟨X.d, 1, none⟩ = false)
     have hpost := fun (w6 : World) (v : Value) (hg : (fileBox w5).grownBy w6 (Value.slice fA S1.files.length fc).ownBlock) hown hob => upd_file (w4 := w6) (v := v) h5 (by simp only [hfv]; exact hg) hown (by simp only [hfv]; exact hob)
     simp only [hfv] at hrow
     have HPO := Lib.hid hpost
     have HPR := Lib.hid hpre
     have HRW := Lib.hid hrow
     clear hpost hpre hrow hfv
     obtain ⟨j0, hj0, hy0, hy1, hy2⟩ := info_parts info_pfile
     have HTR : ∀ w7 S7, Upd { X with tv := .slice A4 (S1.turns.length + 1) c4 } w5 w7 S7 → Upd X w w7 S7 := fun w7 S7 hu =>
      Upd.after hc1 (Upd.trans (X1 := { X with tv := .slice A4 (S1.turns.length + 1) c4 }) rfl ((hc3.mono (fun g hg => .inl (by rw [List.mem_singleton.1 hg]; exact mem_foot.2 (.inr (.inl rfl))))).trans hc5 (fun g hg => .inl hg)) (fun g hg => by
       rcases hf5 g hg with h1 | h1
       ·exact .inl h1
       ·exact .inr (Nat.le_trans hc3.size h1)) hu)
     have HT := Lib.hid HTR
     clear HTR hc1 hc3 hc5 hf5
     go_wp2_with (at_builtin; refine stop_in ?_)
     refine stop_out (wpList_appF rfl (.tmp 55) (.tmp 58) _ rfl 0 120 j0 _ 1 8 Tryz.underlying102 hj0 hy0 hy1 hy2 rfl (by omega) (fileBox w5) (Below.refl _ _) (Nat.zero_le _) (.slice fA S1.files.length fc) S1.files.length _ rfl (own_below HRW.out (fileBox_below w5)) (w5.heap.size + 2) (some ⟨w5.heap.size + 1, 0, none⟩) 1 1 (by omega) [.pointer (some ⟨w5.heap.size, 0, none⟩)] (by simp [Act.eval]) ?rw (by simp [Value.oneCell']) (S1.files.length + 1) _ rfl rfl (by unfold maxLen; omega) (by omega) ?_)
     case rw =>
      have h9 := Row.new (w5.alloc (.cells #[.slice none 0 0, .int .i64 0] 123)) #[.pointer (some ⟨w5.heap.size, 0, none⟩)] 120 (n := 1) (size := 1) rfl
      simpa using h9
     intro A6 c6 w6 hown6 _ hg6 _ _ hob6
     obtain ⟨q4, q5⟩ := HPR.out _ hg6
     have HO := Lib.hid (HT.out _ _ (HPO.out _ _ hg6 hown6 hob6))
     simp only [Dw.cells, gE0, gE1] at q4
     clear hg6 hown6 hob6 HT HPO HPR HRW
     go_wp2
     go_ret
     exact ⟨rfl, HO.out⟩
 ·have hne := neq0 h0
  rw [if_pos h0] at hsy
  rw [hsy]
  clear hsy e1 e2 e3 e4 e5 h0 hld
  go_enter Tryz.func172, Tryz.ntmps172
  go_wp2_with fail
  refine hcall.mono ?_
  rintro e w1 ⟨rfl, h1, hc1⟩
  go_wp2
  go_ret
  exact ⟨rfl, Upd.called h1 hc1⟩
end
section
open Go Go.RowKit
theorem run_appG {P : Program} (w : World) (base : Nat) (t ty e : TypeId) (i : TypeInfo) (z : Value) (size bytes : Nat) (ht : P.underlying t = some (.slice e)) (hi : P.info? e = some i) (hz : i.zero = some z)
  (hsize : i.size = size) (hby : i.bytes = bytes) (hzs : z.cells.size = size) (hsz : 0 < size) (v : Value) (n : Nat) (xs : List Value) (hown : w.ownsRow base e size v n xs)
  (B : Nat) (A : Option Addr) (m c : Nat) (news : List Value) (hr : Row B w A m size news) (h1 : ∀ u ∈ news, u.oneCell' = true)
  (h63 : n + m ≤ maxLen) (hbytes : (n + m) * bytes ≤ 140737488355328) (hbase : base ≤ w.heap.size) :
  ∃ A' c' w', (Builtin.append_ #[t, t] ty #[v, .slice A m c]).run P w = .ok (.slice A' (n + m) c') w' ∧ w'.ownsRow base e size (.slice A' (n + m) c') (n + m) (xs ++ news) ∧ w.grownBy w' v.ownBlock ∧ n + m ≤ c' ∧ c' ≤ maxLen ∧ ((Value.slice A' (n + m) c').ownBlock = v.ownBlock ∨ (Value.slice A' (n + m) c').ownBlock = some w.heap.size) := by
 rcases Nat.eq_zero_or_pos m with h0 | h0
 ·subst h0
  have hn : news = [] := List.eq_nil_of_length_eq_zero (by simpa using hr.len)
  subst hn
  obtain ⟨A', c', rfl, h5, h6, _⟩ := own_form hown
  rw [List.append_nil]
  refine ⟨A', c', w, ?_, hown, ⟨rfl, rfl, rfl, Nat.le_refl _, fun _ _ _ => rfl⟩, h5, h6, .inl rfl⟩
  rcases hown.2 with ⟨hv, rfl⟩ | ⟨g, cap, cur, hv, _, _, hnc, _⟩
  ·cases hv
   rcases A with _ | a <;> simp [Builtin.append_, run_underlying ht, sizeOf, typeInfo, hi, Builtin.lenOf, Builtin.firstCells, loadCells, loadCellsFrom]
  ·cases hv
   rcases A with _ | a <;> simp [Builtin.append_, run_underlying ht, sizeOf, typeInfo, hi, Builtin.lenOf, Builtin.firstCells, loadCells, loadCellsFrom, hnc, storeCells]
 ·have hpos : 0 < news.length := by
   rw [hr.len]
   exact Nat.mul_pos h0 hsz
  obtain ⟨a, rfl, _⟩ := hr.some_ hpos
  obtain ⟨v', w', h2, h3, h4, _, h6⟩ := run_append_own_at (P := P) (ty := ty) w base t e i z size bytes ht hi hz hsize hby hzs hsz v n xs hown a m c news hr.len hr.cells h1 h63 hbytes hbase
  obtain ⟨A', c', rfl, h5, h7, _⟩ := own_form h3
  exact ⟨A', c', w', h2, h3, h4, h5, h7, h6⟩
theorem wpList_appG {P : Program} {w : World} {ops : Array Oper} {rest : List Oper} {o : Oper} {a : Act} {Q : Exit → Act → World → Prop} (hgd : o.guard = none) (s x : Operand) (t : TypeId)
  (ho : o.op = .call { callee := .builtin .append, args := #[s, x], argTypes := #[t, t] })
  (base : Nat) (e : TypeId) (i : TypeInfo) (z : Value) (size bytes : Nat) (ht : P.underlying t = some (.slice e)) (hi : P.info? e = some i) (hz : i.zero = some z)
  (hsize : i.size = size) (hby : i.bytes = bytes) (hzs : z.cells.size = size) (hsz : 0 < size) (hbase : base ≤ w.heap.size) (v : Value) (n : Nat) (xs : List Value) (hs : a.eval s = v) (hown : w.ownsRow base e size v n xs)
  (B : Nat) (A : Option Addr) (m c : Nat) (news : List Value) (hx : a.eval x = .slice A m c) (hr : Row B w A m size news) (h1 : ∀ u ∈ news, u.oneCell' = true)
  (N : Nat) (X : List Value) (hN : n + m = N) (hX : xs ++ news = X) (h63 : N ≤ maxLen) (hbytes : N * bytes ≤ 140737488355328)
  (h : ∀ A' c' w', w'.ownsRow base e size (.slice A' N c') N X → w.grownBy w' v.ownBlock → N ≤ c' → c' ≤ maxLen → ((Value.slice A' N c').ownBlock = v.ownBlock ∨ (Value.slice A' N c').ownBlock = some w.heap.size) → wpList P ops Q rest (a.put o.dst (.slice A' N c')) w') : wpList P ops Q (o :: rest) a w := by
 subst hN
 subst hX
 obtain ⟨A', c', w', hrun, h3, h4, h5, h7, h6⟩ := run_appG (P := P) w base t o.type e i z size bytes ht hi hz hsize hby hzs hsz v n xs hown B A m c news hr h1 h63 hbytes hbase
 refine wpList_plain hgd fun _ hK => ?_
 unfold Oper.wp execOp
 simp only [ho, resolve, invoke, builtin, Sem.run_bind, Sem.run_pure, Result.andThen_ok, List.map_toArray, List.map_cons, List.map_nil, hs, hx, hrun]
 exact hK _ _ (h A' c' w' h3 h4 h5 h7 h6)
end
section
open Go Go.RowKit Go.Maps
theorem append_eq (S : Sd) (s b : List UInt8) : S.append s b = if (S.call [s]).2 ≠ 0 then S.call [s] else match S.names.get s with
  | none => ((S.call [s]).1, 11)
  | some i => if 250000 < b.length ∨ 250000 < S.size i + b.length then ((S.call [s]).1, 2) else if S.quota < S.used + b.length then ((S.call [s]).1, 15)
   else ({ (S.call [s]).1 with files := S.files.set i ((S.files.getD i ([], 0)).1 ++ b, (S.files.getD i ([], 0)).2) }, 0) := rfl
theorem Row.chg_not {w w' : World} {B n size : Nat} {A : Option Addr} {xs : List Value} {G : List Nat} (r : Row B w A n size xs) (h : Chg G w w') (hB : B ≤ w.heap.size) (hF : ∀ a, A = some a → a.block ∉ G) : Row w'.heap.size w' A n size xs :=
 (h.row r hB hF).up (Nat.le_trans hB h.size)
theorem DK.drew {w : World} {X : Dw} {S : Sd} (h : DK w X S) : DK w.drew X S := h.chg ((Chg.refl [] w).drew) (fun g hg => by cases hg)
theorem upd_app {w w4 : World} {X : Dw} {S : Sd} (h : DK w X S) {i : Nat} (hi : i < S.files.length) (hip : i < X.ps.length) {b : List UInt8} {v : Value} (hg : w.grownBy w4 (X.ps[i]).2.ownBlock)
  (hown : w4.ownsRow 0 5 1 v ((S.files[i]).1.length + b.length) (bts (S.files[i]).1 ++ bts b)) (hob : v.ownBlock = (X.ps[i]).2.ownBlock ∨ v.ownBlock = some w.heap.size) :
  (w4.cell? ⟨(X.ps[i]).1, 0, none⟩ = some (X.ps[i]).2 ∧ w4.frozen? ⟨(X.ps[i]).1, 0, none⟩ = false) ∧ Upd X w (w4.setCell ⟨(X.ps[i]).1, 0, none⟩ v) { S with files := S.files.set i ((S.files[i]).1 ++ b, (S.files[i]).2) } := by
 have hfile := h.file i hi hip
 have hself := h.apart.self _ (List.getElem_mem hip)
 have hv : ∀ g, v.ownBlock = some g → (X.ps[i]).2.ownBlock = some g ∨ w.heap.size ≤ g := fun g e => by
  rcases hob with h1 | h1
  ·exact .inl (by rw [← h1, e])
  ·rw [e] at h1
   injection h1 with h1
   exact .inr (by omega)
 have key := fun (w2 : World) (hf : FileAt w2 ((X.ps[i]).1, v) ((S.files[i]).1 ++ b, (S.files[i]).2)) (c : Chg (fileFoot X.ps[i]) w w2) => DK.setFile h hip hf c hv
 have hfo := foot_set hip hv
 have hffo := fun g hg => file_foot (X := X) (i := i) hip (g := g) hg
 generalize S.files[i] = f at *
 generalize X.ps[i] = p at *
 obtain ⟨hfb, hfr⟩ := hfile
 have hc1 : Chg p.2.ownBlock.toList w w4 := Chg.of_grown hg (fun b e => by simp [e])
 have hfb4 := hfb.chg hc1 (fun hm => hself (by simpa using hm))
 have hset := hfb4.store 0 v
 have hcs := chg_set w4 ⟨p.1, 0, none⟩ v
 have hvp : ∀ g, v.ownBlock = some g → g ≠ p.1 := fun g e e2 => by
  subst e2
  rcases hv _ e with h1 | h1
  ·exact hself h1
  ·have := hfb.lt
   omega
 have hrow := own_chg hown hcs (fun g e hg => hvp g e (by simpa using hg))
 have hcm : Chg (fileFoot p) w (w4.setCell ⟨p.1, 0, none⟩ v) := (hc1.mono (G := fileFoot p) (fun g hg => .inl (by simp only [fileFoot, List.mem_cons]; exact .inr hg))).setCell v (.inl (by simp [fileFoot]))
 have hdk := key _ ⟨hset, by simpa [bts_append] using hrow⟩ hcm
 have e0 := hfb4.cell 0
 simp only [gE0] at e0
 exact ⟨⟨e0, hfb4.free 0⟩, ⟨{ X with ps := X.ps.set i (p.1, v) }, rfl, hdk, hcm.mono (fun g hg => .inl (hffo g hg)), hfo⟩⟩
theorem append_any (X : Dw) (S : Sd) (s : ByteArray) (hs : s.size ≤ maxLen) (A : Option Addr) (m c : Nat) (b : List UInt8) (hm : m ≤ 1099511627776) (hw : S.Wf) (w : World) (h : DK w X S) (hr : Row w.heap.size w A m 1 (bts b)) (hA : ∀ a, A = some a → a.block ≠ X.d) :
  Calls Tryz.prog 84 #[.pointer (some ⟨X.d, 0, none⟩), .string s, .slice A m c] w fun e w' => e = .returned (.int .i64 ((S.append s.data.toList b).2 : Int)) ∧ Upd X w w' (S.append s.data.toList b).1 := by
 have hcall := call1 X S s hs hw w h
 have hw1 := hw.call [s.data.toList]
 have hbl : b.length = m := hr.btlen
 obtain ⟨e1, e2, e3, e4, e5, _, _⟩ := Sd.call_same S [s.data.toList]
 have e6 := Sd.call_used S [s.data.toList]
 have hsy := append_eq S s.data.toList b
 generalize S.call [s.data.toList] = R at *
 obtain ⟨S1, er⟩ := R
 simp only at *
 by_cases h0 : er = 0
 ·subst h0
  rw [if_neg (by simp)] at hsy
  have hfd := fun w1 h1 => find_any X S1 s hs w1 h1 hw1.names
  cases h3 : S.names.get s.data.toList with
  | none =>
   simp only [h3] at hsy
   rw [hsy]
   simp only [e1, h3] at hfd
   clear hsy h3 e1 e2 e3 e4 e5 e6 hw1 hw h hbl
   go_enter Tryz.func84, Tryz.ntmps84
   go_wp2_with fail
   refine hcall.mono ?_
   rintro e w1 ⟨rfl, h1, hc1⟩
   go_wp2_with fail
   refine (hfd w1 h1).mono ?_
   rintro e w2 ⟨rfl, rfl⟩
   go_wp2
   go_ret
   exact ⟨rfl, Upd.called h1 hc1⟩
  | some i =>
   simp only [h3] at hsy
   simp only [e1, h3] at hfd
   have hi : i < S1.files.length := by rw [e3]; exact hw.names _ (Nm.get_mem h3)
   have hsz : S.size i = (S1.files[i]).1.length := by simp [Sd.size, ← e3, List.getD_eq_getElem?_getD, hi]
   have hgd : S.files.getD i ([], 0) = S1.files[i] := by simp [← e3, List.getD_eq_getElem?_getD, hi]
   have hlen := (hw1.file i hi).2
   have hus := Sd.used_le hw1
   have hq := hw1.quota
   rw [hgd, hsz, ← e3, ← e5, ← e6, hbl] at hsy
   obtain ⟨p, hp⟩ : ∃ p, p = X.ps.getD i (0, Go.undef) := ⟨_, rfl⟩
   rw [← hp] at hfd
   have hE : ∀ (w1 : World) (h1 : DK w1 X S1), ∃ fA fc, p.2 = .slice fA (S1.files[i]).1.length fc ∧ w1.cell? ⟨p.1, 0, none⟩ = some (.slice fA (S1.files[i]).1.length fc) := fun w1 h1 => by
    have hip : i < X.ps.length := by rw [h1.flen]; exact hi
    have hptr : X.ps.getD i (0, Go.undef) = X.ps[i] := by simp [List.getD_eq_getElem?_getD, hip]
    obtain ⟨hfb, hfr⟩ := h1.file i hi hip
    obtain ⟨fA, fc, hfv, _⟩ := own_form hfr
    have e0 := hfb.cell 0
    simp only [gE0] at e0
    rw [hp, hptr]
    exact ⟨fA, fc, hfv, by rw [e0, hfv]⟩
   by_cases hlong : 250000 < m ∨ 250000 < (S1.files[i]).1.length + m
   ·rw [if_pos hlong] at hsy
    rw [hsy]
    have HE := Lib.hid hE
    clear hp hE hsy hsz hgd h3 e1 e2 e3 e4 e5 e6 hw hbl h hus hq
    generalize (S1.files[i]).1.length = F at *
    by_cases hl1 : 250000 < m
    ·have hl1' : (250000 : Int) < (m : Int) := by omega
     go_enter Tryz.func84, Tryz.ntmps84
     go_wp2_with fail
     refine hcall.mono ?_
     rintro e w1 ⟨rfl, h1, hc1⟩
     go_wp2_with fail
     refine (hfd w1 h1).mono ?_
     rintro e w2 ⟨rfl, rfl⟩
     unfold ptrV
     go_wp2
     go_ret
     exact ⟨rfl, Upd.called h1 hc1⟩
    ·have hl1' : ((250000 : Int) < (m : Int)) = False := by simp; omega
     have hl2' : (250000 : Int) - (m : Int) < (F : Int) := by omega
     go_enter Tryz.func84, Tryz.ntmps84
     go_wp2_with fail
     refine hcall.mono ?_
     rintro e w1 ⟨rfl, h1, hc1⟩
     go_wp2_with fail
     refine (hfd w1 h1).mono ?_
     rintro e w2 ⟨rfl, rfl⟩
     obtain ⟨fA, fc, _, e0⟩ := HE.out w1 h1
     unfold ptrV
     go_wp2
     go_ret
     exact ⟨rfl, Upd.called h1 hc1⟩
   ·rw [if_neg hlong] at hsy
    have hl1' : ((250000 : Int) < (m : Int)) = False := by simp; omega
    have hl2' : ((250000 : Int) - (m : Int) < ((S1.files[i]).1.length : Int)) = False := by simp; omega
    have hsub : (250000 : Int) - (m : Int) ≤ 250000 := by omega
    have hm' : m ≤ 250000 := by omega
    have hip : ∀ w1, DK w1 X S1 → i < X.ps.length := fun w1 h1 => by rw [h1.flen]; exact hi
    have hfin : ∀ (w1 w4 : World) (v : Value) (h1 : DK w1 X S1) (hg : w1.grownBy w4 p.2.ownBlock) (hown : w4.ownsRow 0 5 1 v ((S1.files[i]).1.length + m) (bts (S1.files[i]).1 ++ bts b)) (hob : v.ownBlock = p.2.ownBlock ∨ v.ownBlock = some w1.heap.size),
      (w4.cell? ⟨p.1, 0, none⟩ = some p.2 ∧ w4.frozen? ⟨p.1, 0, none⟩ = false) ∧ Upd X w1 (w4.setCell ⟨p.1, 0, none⟩ v) { S1 with files := S1.files.set i ((S1.files[i]).1 ++ b, (S1.files[i]).2) } := fun w1 w4 v h1 hg hown hob => by
     have hptr : p = X.ps[i]'(hip w1 h1) := by rw [hp]; simp [List.getD_eq_getElem?_getD, hip w1 h1]
     rw [hptr] at hg hob ⊢
     exact upd_app h1 hi (hip w1 h1) hg (by rw [hbl]; exact hown) hob
    have hrow : ∀ w1, DK w1 X S1 → w1.ownsRow 0 5 1 p.2 (S1.files[i]).1.length (bts (S1.files[i]).1) := fun w1 h1 => by
     have hptr : p = X.ps[i]'(hip w1 h1) := by rw [hp]; simp [List.getD_eq_getElem?_getD, hip w1 h1]
     rw [hptr]
     exact (h1.file i hi (hip w1 h1)).row
    have HE := Lib.hid hE
    have HFIN := Lib.hid hfin
    have HROW := Lib.hid hrow
    have huse := fun w1 h1 => used_any X S1 w1 h1 hw1.names (Nat.le_trans hus (by omega))
    clear hE hp hfin hrow hsz hgd h3 e1 e2 e3 e4 e5 e6 hw hbl h hlong hip
    have hqd : ∀ w1, DK w1 X S1 → w1.cell? ⟨X.d, 0, none⟩ = some (.int .i64 (S1.quota : Int)) := fun w1 h1 => by rw [h1.box.cell 0]; rfl
    have HQD := Lib.hid hqd
    clear hqd
    obtain ⟨i0, hi0, hz0, hz1, hz2⟩ := info_parts info_u8
    have hq1 : IntKind.i64.wrap ((S1.quota : Int) - (m : Int)) = (S1.quota : Int) - (m : Int) := by
     have hb : -9223372036854775808 ≤ (S1.quota : Int) - (m : Int) ∧ (S1.quota : Int) - (m : Int) ≤ 9223372036854775807 := by omega
     rw [IntKind.wrap_i64]
     have hw := IntWalk.wrap64_in _ hb
     unfold wrap64 at hw
     exact hw
    have HQ1 := Lib.hid hq1
    clear hq1
    by_cases hqf : S1.quota < S1.used + m
    ·rw [if_pos hqf] at hsy
     rw [hsy]
     have hqf' : (S1.quota : Int) - (m : Int) < (S1.used : Int) := by omega
     clear hsy hqf
     generalize (S1.files[i]).1.length = F at *
     go_enter Tryz.func84, Tryz.ntmps84
     go_wp2_with fail
     refine hcall.mono ?_
     rintro e w1 ⟨rfl, h1, hc1⟩
     go_wp2_with fail
     refine (hfd w1 h1).mono ?_
     rintro e w2 ⟨rfl, rfl⟩
     obtain ⟨fA, fc, hpv, e0⟩ := HE.out w1 h1
     have q0 := HQD.out w1 h1
     have hUSE := Lib.hid huse
     clear huse hpv
     unfold ptrV
     go_wp2
     have hq1 := HQ1.out
     go_region_with ((go_at_call 159; refine (hUSE.out _ h1.drew).mono ?_; rintro e w2 ⟨rfl, hb2⟩; have q0 := HQD.out w2 (h1.drew.below hb2)))
     all_goals
      have hfinal : Upd X w w2 S1 := Upd.called (h1.drew.below hb2) (hc1.trans ((Chg.refl [X.d] w1).drew.trans (Chg.of_below hb2 [X.d]) (fun g hg => .inl hg)) (fun g hg => .inl hg))
      clear q0
      go_wp2
      go_ret
      exact ⟨rfl, hfinal⟩
    ·rw [if_neg hqf] at hsy
     rw [hsy]
     have hqf' : ((S1.quota : Int) - (m : Int) < (S1.used : Int)) = False := by simp; omega
     clear hsy hqf
     obtain ⟨f, hf⟩ : ∃ f, f = S1.files[i] := ⟨_, rfl⟩
     rw [← hf] at HROW HFIN HE hl2' hlen ⊢
     clear hf
     go_enter Tryz.func84, Tryz.ntmps84
     go_wp2_with fail
     refine hcall.mono ?_
     rintro e w1 ⟨rfl, h1, hc1⟩
     go_wp2_with fail
     refine (hfd w1 h1).mono ?_
     rintro e w2 ⟨rfl, rfl⟩
     obtain ⟨fA, fc, hpv, e0⟩ := HE.out w1 h1
     have HPV := Lib.hid hpv
     have q0 := HQD.out w1 h1
     have hUSE := Lib.hid huse
     have hrA := Lib.hid (Row.chg_not hr hc1 (Nat.le_refl _) (fun a e hg => hA a e (by simpa using hg)))
     clear huse hpv
     unfold ptrV
     go_wp2
     have hq1 := HQ1.out
     go_region_with ((go_at_call 159; refine (hUSE.out _ h1.drew).mono ?_; rintro e w2 ⟨rfl, hb2⟩; have q0 := HQD.out w2 (h1.drew.below hb2)))
     all_goals
      have h2 := h1.drew.below hb2
      have hc2 : Chg [X.d] w w2 := hc1.trans ((Chg.refl [X.d] w1).drew.trans (Chg.of_below hb2 [X.d]) (fun g hg => .inl hg)) (fun g hg => .inl hg)
      have hr2 := Lib.hid ((hrA.out.drew.below hb2).arg (Nat.le_trans (by simp) hb2.size))
      have e2 : w2.cell? ⟨p.1, 0, none⟩ = some (.slice fA f.1.length fc) := by
       obtain ⟨fA', fc', h7, h8⟩ := HE.out w2 h2
       rw [h8, ← h7, HPV.out]
      have hrw := HROW.out w2 h2
      rw [HPV.out] at hrw
      have HRW := Lib.hid hrw
      have hfn := fun w4 v => HFIN.out w2 w4 v h2
      rw [HPV.out] at hfn
      have HFN := Lib.hid hfn
      clear q0 e0 hrw hfn hrA hq1 hl2'
      go_wp2_with (at_builtin; refine stop_in ?_)
      refine stop_out (wpList_appG rfl (.tmp 52) (.tmp 53) _ rfl 0 5 i0 _ 1 1 Tryz.underlying121 hi0 hz0 hz1 hz2 rfl (by omega) (Nat.zero_le _) (.slice fA f.1.length fc) f.1.length _ rfl HRW.out _ A m c (bts b) rfl hr2.out (bts_one _) (f.1.length + m) _ rfl rfl (by unfold maxLen; omega) (by omega) ?_)
      intro A4 c4 w4 hown4 hg4 _ _ hob4
      obtain ⟨⟨q4, q5⟩, hup⟩ := HFN.out _ _ hg4 hown4 hob4
      have HU := Lib.hid (Upd.after hc2 hup)
      clear hown4 hg4 hob4 HRW HFN hup e2
      go_wp2
      go_ret
      exact ⟨rfl, HU.out⟩
 ·have hne := neq0 h0
  rw [if_pos h0] at hsy
  rw [hsy]
  clear hsy e1 e2 e3 e4 e5 h0 e6
  go_enter Tryz.func84, Tryz.ntmps84
  go_wp2_with fail
  refine hcall.mono ?_
  rintro e w1 ⟨rfl, h1, hc1⟩
  go_wp2
  go_ret
  exact ⟨rfl, Upd.called h1 hc1⟩
end
section
open Go Go.RowKit Go.Shelf
structure Dm (w : World) (X : Dw) (S : Sd) : Prop where
 dk : DK w X S
 wf : S.Wf
 env : Env w
 base : ∀ g ∈ X.foot, NG ≤ g
theorem Dm.below {w w' : World} {X : Dw} {S : Sd} (h : Dm w X S) (hb : Below w.heap.size w w') : Dm w' X S := ⟨h.dk.below hb, h.wf, h.env.below hb, h.base⟩
theorem Dm.chg {w w' : World} {X : Dw} {S : Sd} {G : List Nat} (h : Dm w X S) (c : Chg G w w') (hG : ∀ g ∈ G, g ∉ X.foot ∧ NG ≤ g) : Dm w' X S := ⟨h.dk.chg c (fun g hg => (hG g hg).1), h.wf, h.env.chg c (fun g hg => (hG g hg).2), h.base⟩
def UpdM (X : Dw) (w w' : World) (S' : Sd) : Prop := ∃ X', X'.d = X.d ∧ Dm w' X' S' ∧ Chg X.foot w w' ∧ ∀ g ∈ X'.foot, g ∈ X.foot ∨ w.heap.size ≤ g
theorem Dm.upd {w w' : World} {X : Dw} {S S' : Sd} (h : Dm w X S) (hw : S'.Wf) (hu : Upd X w w' S') : UpdM X w w' S' := by
 obtain ⟨X', e, hd, hc, hf⟩ := hu
 have hb := h.env.base
 exact ⟨X', e, ⟨hd, hw, h.env.chg hc h.base, fun g hg => by
  rcases hf g hg with h1 | h1
  ·exact h.base g h1
  ·omega⟩, hc, hf⟩
theorem UpdM.same {w w' : World} {X : Dw} {S : Sd} (h : Dm w X S) (hb : Below w.heap.size w w') : UpdM X w w' S := ⟨X, rfl, h.below hb, Chg.of_below hb _, fun _ hg => .inl hg⟩
theorem UpdM.trans {w w1 w2 : World} {X X1 : Dw} {S2 : Sd} (e : X1.d = X.d) (c : Chg X.foot w w1) (hf : ∀ g ∈ X1.foot, g ∈ X.foot ∨ w.heap.size ≤ g) (h2 : UpdM X1 w1 w2 S2) : UpdM X w w2 S2 := by
 obtain ⟨X', e', h, c', hf'⟩ := h2
 refine ⟨X', e'.trans e, h, c.trans c' (fun g hg => hf g hg), fun g hg => ?_⟩
 rcases hf' g hg with h3 | h3
 ·exact hf g h3
 ·exact .inr (Nat.le_trans c.size h3)
theorem list_named {S : Sd} (hw : S.Wf) : ∀ s ∈ S.list, Sd.named s = true := by
 intro s hs
 unfold Sd.list at hs
 split at hs
 ·cases hs
 ·rw [List.mem_mergeSort] at hs
  obtain ⟨p, hp, rfl⟩ := List.mem_map.1 hs
  exact hw.gnames p hp
theorem named_len {s : List UInt8} (h : Sd.named s = true) : 1 ≤ s.length ∧ s.length ≤ 16 := by
 simp only [Sd.named, Bool.and_eq_true, decide_eq_true_eq] at h
 exact h.1
theorem list_len {S : Sd} (hw : S.Wf) : S.list.length ≤ 64 := by
 unfold Sd.list
 split
 ·simp
 ·rw [List.length_mergeSort, List.length_map]; exact hw.most
theorem Row.enc {B n : Nat} {w : World} {A : Option Addr} {ss : List (List UInt8)} (h : Row B w A n 1 (ss.map Go.Proofs.encStr)) {k : Nat} (hk : k < n) : ∃ a, ∃ hl : k < ss.length, A = some a ∧ a.block < B ∧ w.cell? (a.add k) = some (.string (str ss[k])) := by
 obtain ⟨a, v, e, hb, hv, hc⟩ := h.at1 hk
 have hl : k < ss.length := by
  have := h.len
  simp at this
  omega
 rw [List.getElem?_map, List.getElem?_eq_getElem hl] at hv
 injection hv with hv
 subst hv
 exact ⟨a, hl, e, hb, hc⟩
theorem greatest_any (X : Dw) (S : Sd) (k : ByteArray) (hk : k.size ≤ 1000) (w : World) (h : Dm w X S) :
  Calls Tryz.prog 144 #[.pointer (some ⟨X.d, 0, none⟩), .string k] w fun e w' => e = .returned (.int .i64 (Mn.greatest S.list k.data.toList)) ∧ Below w.heap.size w w' := by
 have hl := dlist_any X S h.wf w h.dk
 have hnm := list_named h.wf
 have hlen := list_len h.wf
 obtain ⟨L, hL⟩ : ∃ L, L = S.list := ⟨_, rfl⟩
 rw [← hL] at hl hnm hlen ⊢
 clear hL
 have HNM := Lib.hid hnm
 clear hnm
 obtain ⟨R, hR⟩ : ∃ R, R = Mn.greatest L k.data.toList := ⟨_, rfl⟩
 rw [← hR]
 have HR := Lib.hid hR
 clear hR
 go_enter Tryz.func144, Tryz.ntmps144
 go_wp2_with fail
 refine hl.mono ?_
 rintro e w1 ⟨A, c, rfl, hown, hb1⟩
 have hrow := Row.own hown
 have hcap : L.length ≤ c := by
  obtain ⟨A', c', e, h1, _⟩ := own_form hown
  injection e with _ e2 e3
  omega
 go_wp2
 go_loopw [5, 13] (fun m i wr => ∃ j : Nat, j ≤ L.length ∧ i = .int .i64 (j : Int) ∧ m = .int .i64 (Mn.greatest (L.take j) k.data.toList) ∧ Below w.heap.size w wr ∧ Below w1.heap.size w1 wr) (fun _ i _ => L.length - (intOf i).toNat)
 case atStart => exact ⟨0, Nat.zero_le _, rfl, rfl, hb1, Below.refl _ _⟩
 case round =>
  obtain ⟨j, hj, rfl, rfl, hbw, hb1w⟩ := hrel
  by_cases hlt : j < L.length
  ·have hrow' := (hrow.below hb1w)
   obtain ⟨a, hl', rfl, _, hcl⟩ := hrow'.enc hlt
   have hsn := HNM.out _ (List.getElem_mem hl')
   have hsl := named_len hsn
   have HT := Lib.hid (Mn.greatest_take hl' k.data.toList)
   have hnum := number_any (str L[j]) k (by rw [str_size]; omega) hk wr (h.env.below hbw)
   rw [list_str] at hnum
   generalize L[j] = s at *
   go_wp2_with fail
   refine hnum.mono ?_
   rintro e w2 ⟨rfl, hb2⟩
   have hb3 := hbw.trans (hb2.mono hbw.size)
   have hb4 := hb1w.trans (hb2.mono hb1w.size)
   cases hns : Mn.number s k.data.toList with
   | none =>
    rw [hns] at HT
    unfold numV
    generalize hG : Mn.greatest (L.take j) k.data.toList = G at *
    clear hnum hcl hrow'
    go_wp2
    go_roundw
    case rel => exact ⟨j + 1, by omega, by go_num, by rw [HT.out]; simp, hb3, hb4⟩
    case measure => simp [intOf]; omega
   | some v =>
    rw [hns] at HT
    unfold numV
    generalize hG : Mn.greatest (L.take j) k.data.toList = G at *
    clear hnum hcl hrow'
    go_wp2
    go_roundw
    case rel => exact ⟨j + 1, by omega, by go_num, by rw [HT.out]; simp, hb3, hb4⟩
    case measure => simp [intOf]; omega
  ·have e1 : L.take j = L := List.take_of_length_le (by omega)
   rw [e1, ← show R = _ from HR.out]
   go_wp2
   go_ret
   exact ⟨rfl, hbw⟩
theorem write_any (X : Dw) (S : Sd) (s : ByteArray) (hs : s.size ≤ maxLen) (A : Option Addr) (m c : Nat) (b : List UInt8) (hm : m ≤ 1099511627776) (hl : S.load ≤ 1099511627776) (w : World) (h : Dm w X S) (hr : Row w.heap.size w A m 1 (bts b)) (hA : ∀ a, A = some a → a.block ∉ X.foot) :
  Calls Tryz.prog 199 #[.pointer (some ⟨X.d, 0, none⟩), .string s, .slice A m c] w fun e w' => e = .returned (.int .i64 ((S.write s.data.toList b).2 : Int)) ∧ UpdM X w w' (S.write s.data.toList b).1 := by
 have hcr := create_any X S s hs h.wf hl w h.dk
 have hw1 := h.wf.create s.data.toList
 have hup1 := fun w1 (hu : Upd X w w1 (S.create s.data.toList).1) => h.upd hw1 hu
 have hsy : S.write s.data.toList b = if (S.create s.data.toList).2 ≠ 0 then S.create s.data.toList else if ((S.create s.data.toList).1.append s.data.toList b).2 ≠ 0 then (S.create s.data.toList).1.append s.data.toList b
  else ((S.create s.data.toList).1.append s.data.toList b).1.sync s.data.toList := rfl
 generalize S.create s.data.toList = R1 at *
 obtain ⟨S1, e1⟩ := R1
 simp only at *
 by_cases h0 : e1 = 0
 ·subst h0
  rw [if_neg (by simp)] at hsy
  have hw2 := hw1.append s.data.toList b
  have hap := fun X1 w1 (h1 : DK w1 X1 S1) hr1 hA1 => append_any X1 S1 s hs A m c b hm hw1 w1 h1 hr1 hA1
  generalize S1.append s.data.toList b = R2 at *
  obtain ⟨S2, e2⟩ := R2
  simp only at *
  by_cases h1 : e2 = 0
  ·subst h1
   rw [if_neg (by simp)] at hsy
   have hw3 := hw2.sync s.data.toList
   have hsn := fun X1 w1 (h1 : DK w1 X1 S2) => sync_any X1 S2 s hs hw2 w1 h1
   generalize S2.sync s.data.toList = R3 at *
   obtain ⟨S3, e3⟩ := R3
   simp only at *
   rw [hsy]
   clear hsy
   have HR := Lib.hid hr
   have HA := Lib.hid hA
   clear hr hA
   go_enter Tryz.func199, Tryz.ntmps199
   go_wp2_with fail
   refine hcr.mono ?_
   rintro e w1 ⟨rfl, hu1⟩
   obtain ⟨X1, ed1, hd1, hc1, hf1⟩ := hup1 w1 hu1
   have hr1 := Row.chg_not HR.out hc1 (Nat.le_refl _) HA.out
   have hA1 : ∀ a, A = some a → a.block ≠ X1.d := fun a ha => by rw [ed1]; exact fun e => HA.out a ha (by rw [e]; exact mem_foot.2 (.inl rfl))
   have hcall2 := hap X1 w1 hd1.dk hr1 hA1
   rw [ed1] at hcall2
   have H2 := Lib.hid hcall2
   clear hcall2 hA1 hap hup1 hu1 hr1
   go_wp2_with fail
   refine H2.out.mono ?_
   rintro e w2 ⟨rfl, hu2⟩
   obtain ⟨X2, ed2, hd2, hc2, hf2⟩ := hd1.upd hw2 hu2
   have hcall3 := hsn X2 w2 hd2.dk
   rw [ed2, ed1] at hcall3
   have H3 := Lib.hid hcall3
   clear hcall3 hsn hu2
   go_wp2_with fail
   refine H3.out.mono ?_
   rintro e w3 ⟨rfl, hu3⟩
   have hfin := UpdM.trans ed1 hc1 hf1 (UpdM.trans ed2 hc2 hf2 (hd2.upd hw3 hu3))
   clear hu3
   go_wp2
   go_ret
   exact ⟨rfl, hfin⟩
  ·have hne := neq0 h1
   rw [if_pos h1] at hsy
   rw [hsy]
   clear hsy
   have HR := Lib.hid hr
   have HA := Lib.hid hA
   clear hr hA h1
   go_enter Tryz.func199, Tryz.ntmps199
   go_wp2_with fail
   refine hcr.mono ?_
   rintro e w1 ⟨rfl, hu1⟩
   obtain ⟨X1, ed1, hd1, hc1, hf1⟩ := hup1 w1 hu1
   have hr1 := Row.chg_not HR.out hc1 (Nat.le_refl _) HA.out
   have hA1 : ∀ a, A = some a → a.block ≠ X1.d := fun a ha => by rw [ed1]; exact fun e => HA.out a ha (by rw [e]; exact mem_foot.2 (.inl rfl))
   have hcall2 := hap X1 w1 hd1.dk hr1 hA1
   rw [ed1] at hcall2
   have H2 := Lib.hid hcall2
   clear hcall2 hA1 hap hup1 hu1 hr1
   go_wp2_with fail
   refine H2.out.mono ?_
   rintro e w2 ⟨rfl, hu2⟩
   have hfin := UpdM.trans ed1 hc1 hf1 (hd1.upd hw2 hu2)
   clear hu2
   go_wp2
   go_ret
   exact ⟨rfl, hfin⟩
 ·have hne := neq0 h0
  rw [if_pos h0] at hsy
  rw [hsy]
  clear hsy h0
  go_enter Tryz.func199, Tryz.ntmps199
  go_wp2_with fail
  refine hcr.mono ?_
  rintro e w1 ⟨rfl, hu1⟩
  have hfin := hup1 w1 hu1
  clear hu1 hup1
  go_wp2
  go_ret
  exact ⟨rfl, hfin⟩
end
section
open Go Go.RowKit
namespace Once
theorem disable (w : World) : (callFunc 317 #[]).run Tryz.prog w = .ok (.value (.tuple #[])) w := run_call_mark0 Tryz.func317 (by kernel_rfl) (by kernel_rfl) (by kernel_rfl) .disable (by kernel_rfl) w
theorem enable (w : World) : (callFunc 319 #[]).run Tryz.prog w = .ok (.value (.tuple #[])) w := run_call_mark0 Tryz.func319 (by kernel_rfl) (by kernel_rfl) (by kernel_rfl) .enable (by kernel_rfl) w
theorem acquire (a : Addr) (w : World) : (callFunc 320 #[.pointer (some a)]).run Tryz.prog w = .ok (.value (.tuple #[])) w := run_call_marked Tryz.func320 (by kernel_rfl) (by kernel_rfl) (by kernel_rfl) .acquire (by kernel_rfl) a w
theorem releaseMerge (a : Addr) (w : World) : (callFunc 322 #[.pointer (some a)]).run Tryz.prog w = .ok (.value (.tuple #[])) w := run_call_marked Tryz.func322 (by kernel_rfl) (by kernel_rfl) (by kernel_rfl) .releaseMerge (by kernel_rfl) a w
theorem store_deferred (a : Addr) (x : Value) (u : FrameMode) (w : World) (hc : w.cell? a = some x) (hz : w.frozen? a = false) :
  CallsD Tryz.prog 277 #[.pointer (some a), .bool true] u w fun e u' w' => u' = u ∧ (e = .returned (.tuple #[]) ∧ w' = w.drew.setCell a (.int .u32 1)) := by
 have hc' : w.drew.cell? a = some x := by go_simp
 have hz' : w.drew.frozen? a = false := by go_simp
 have hst := run_call_store (P := Tryz.prog) Tryz.func304 (by kernel_rfl) (by kernel_rfl) (by kernel_rfl) (by kernel_rfl) (k := .u32) (y := 1) hc' hz'
 go_enter_d Tryz.func277, Tryz.ntmps277
 go_wp2
 go_region_calls
 all_goals (go_end0; exact ⟨rfl, rfl⟩)
theorem unlock_deferred (a : Addr) (u : FrameMode) (w : World) (hc : w.cell? a = some (.int .i32 1)) (hz : w.frozen? a = false) :
  CallsD Tryz.prog 276 #[.pointer (some a)] u w fun e u' w' => u' = u ∧ (e = .returned (.tuple #[]) ∧ w' = w.setCell a (.int .i32 0)) := by
 have hd := disable
 have he := enable
 have hr := releaseMerge
 have hadd := run_call_add (P := Tryz.prog) Tryz.func323 (by kernel_rfl) (by kernel_rfl) (by kernel_rfl) .i32 (by kernel_rfl) (y := -1) (s := 0) hc hz (by simp [go_sem]; rfl)
 first | have hcv := run_convert_to_unsafe (P := Tryz.prog) (src := 387) (dst := 233) Tryz.underlying387 Tryz.underlying233 (by kernel_rfl) hc | have hcv := run_convert_to_unsafe (P := Tryz.prog) (src := 373) (dst := 233) Tryz.underlying373 Tryz.underlying233 (by kernel_rfl) hc | have hcv := run_convert_to_unsafe (P := Tryz.prog) (src := 406) (dst := 233) Tryz.underlying406 Tryz.underlying233 (by kernel_rfl) hc | have hcv := run_convert_to_unsafe (P := Tryz.prog) (src := 233) (dst := 233) Tryz.underlying233 Tryz.underlying233 (by kernel_rfl) hc
 go_enter_d Tryz.func276, Tryz.ntmps276
 go_wp2
 go_end0
 go_wp2
 go_end0
 exact ⟨rfl, rfl⟩
theorem lock_free (a : Addr) (w : World) (hc : w.cell? a = some (.int .i32 0)) (hz : w.frozen? a = false) :
  Calls Tryz.prog 275 #[.pointer (some a)] w fun e w' => e = .returned (.tuple #[]) ∧ w' = w.setCell a (.int .i32 1) := by
 have hd := disable
 have he := enable
 have ha := acquire
 have hcas := run_call_cas_hit (P := Tryz.prog) Tryz.func318 (by kernel_rfl) (by kernel_rfl) (by kernel_rfl) .i32 (by kernel_rfl) (y := 1) hc hz
 have hc' : (w.setCell a (.int .i32 1)).cell? a = some (.int .i32 1) := World.cell?_setCell_same w a _ hc
 first | have hcv := run_convert_to_unsafe (P := Tryz.prog) (src := 387) (dst := 233) Tryz.underlying387 Tryz.underlying233 (by kernel_rfl) hc' | have hcv := run_convert_to_unsafe (P := Tryz.prog) (src := 373) (dst := 233) Tryz.underlying373 Tryz.underlying233 (by kernel_rfl) hc' | have hcv := run_convert_to_unsafe (P := Tryz.prog) (src := 406) (dst := 233) Tryz.underlying406 Tryz.underlying233 (by kernel_rfl) hc' | have hcv := run_convert_to_unsafe (P := Tryz.prog) (src := 233) (dst := 233) Tryz.underlying233 Tryz.underlying233 (by kernel_rfl) hc'
 go_enter Tryz.func275, Tryz.ntmps275
 go_wp2
 first | go_end0 | (simp only [Exit.inBlock, Exit.then]; refine bodyPost_ret (results_none rfl _ _ _) rfl ?_) | refine bodyPost_ret (results_none rfl _ _ _) rfl ?_
 go_wp2
 go_end0
 exact ⟨rfl, rfl⟩
end Once
end
section
open Go Go.RowKit
namespace Once
theorem slow_any (b : Nat) (pl : Addr) (hpb : ¬ b = pl.block) (x3 : Value) (w : World) (hp : w.cell? pl = some (.pointer (some ⟨b, 0, none⟩)))
  (h0 : w.cell? ⟨b, 9, none⟩ = some (.int .u32 0)) (h1 : w.cell? ⟨b, 10, none⟩ = some (.int .i32 0)) (h3 : w.cell? ⟨b, 12, none⟩ = some x3)
  (f0 : w.frozen? ⟨b, 9, none⟩ = false) (f1 : w.frozen? ⟨b, 10, none⟩ = false) (f3 : w.frozen? ⟨b, 12, none⟩ = false) :
  Calls Tryz.prog 253 #[.pointer (some ⟨b, 9, none⟩), .func (.func 245) #[] #[.pointer (some pl)]] w fun e w' => e = .returned (.tuple #[]) ∧
   w' = (((w.setCell ⟨b, 10, none⟩ (.int .i32 1)).setCell ⟨b, 12, none⟩ (.bool true)).drew.setCell ⟨b, 9, none⟩ (.int .u32 1)).setCell ⟨b, 10, none⟩ (.int .i32 0) := by
 have hl := run_call_load (P := Tryz.prog) Tryz.func274 (by kernel_rfl) (by kernel_rfl) (by kernel_rfl) .u32 (by kernel_rfl) (w := w.setCell ⟨b, 10, none⟩ (.int .i32 1)) (a := ⟨b, 9, none⟩) (x := 0) ((World.cell?_setCell_other _ ⟨b, 10, none⟩ ⟨b, 9, none⟩ _ (by simp)).trans h0)
 have hp1 : (w.setCell ⟨b, 10, none⟩ (.int .i32 1)).cell? pl = some (.pointer (some ⟨b, 0, none⟩)) := (World.cell?_setCell_other _ ⟨b, 10, none⟩ pl _ (fun h => hpb (by rw [← h]))).trans hp
 have h31 : (w.setCell ⟨b, 10, none⟩ (.int .i32 1)).cell? ⟨b, 12, none⟩ = some x3 := (World.cell?_setCell_other _ ⟨b, 10, none⟩ ⟨b, 12, none⟩ _ (by simp)).trans h3
 have hnot : ∀ (x : Bool) (w : World), (Op.unary .not (.bool x)).run Tryz.prog w = .ok (.bool (!x)) w := fun _ _ => rfl
 go_enter_defers Tryz.func253, Tryz.ntmps253
 go_wp2_with (go_at_call 275; refine (lock_free ⟨b, 10, none⟩ _ (by go_simp) (by go_simp)).mono ?_; rintro e w' ⟨rfl, rfl⟩)
 go_wp2
 go_end0
 go_wp2
 -- THE DOOR: two deferred calls, the last laid first
 refine leaves_cons (f := 277) (args := #[.pointer (some ⟨b, 9, none⟩), .bool true]) (by simp) (by simp [go_sem]) ?_
 refine (store_deferred ⟨b, 9, none⟩ (.int .u32 0) .returning _ ?_ (by simp [f0])).mono ?_
 ·exact (World.cell?_setCell_other _ ⟨b, 12, none⟩ ⟨b, 9, none⟩ _ (by simp)).trans ((World.cell?_setCell_other _ ⟨b, 10, none⟩ ⟨b, 9, none⟩ _ (by simp)).trans h0)
 rintro e u' w'' ⟨rfl, rfl, rfl⟩
 refine leaves_cons (f := 276) (args := #[.pointer (some ⟨b, 10, none⟩)]) (by simp [settle]) (by simp [go_sem]) ?_
 refine (unlock_deferred ⟨b, 10, none⟩ _ _ ?_ (by simp [f1])).mono ?_
 ·refine (World.cell?_setCell_other _ ⟨b, 9, none⟩ ⟨b, 10, none⟩ _ (by simp)).trans ?_
  rw [World.cell?_drew]
  exact (World.cell?_setCell_other _ ⟨b, 12, none⟩ ⟨b, 10, none⟩ _ (by simp)).trans (World.cell?_setCell_same w _ _ h1)
 rintro e u' w'' ⟨rfl, rfl, rfl⟩
 simp [Leaves, settle, results, Tryz.results253]
theorem do_first (b : Nat) (pl : Addr) (hpb : ¬ b = pl.block) (x3 : Value) (w : World) (hp : w.cell? pl = some (.pointer (some ⟨b, 0, none⟩)))
  (h0 : w.cell? ⟨b, 9, none⟩ = some (.int .u32 0)) (h1 : w.cell? ⟨b, 10, none⟩ = some (.int .i32 0)) (h3 : w.cell? ⟨b, 12, none⟩ = some x3)
  (f0 : w.frozen? ⟨b, 9, none⟩ = false) (f1 : w.frozen? ⟨b, 10, none⟩ = false) (f3 : w.frozen? ⟨b, 12, none⟩ = false) :
  Calls Tryz.prog 222 #[.pointer (some ⟨b, 9, none⟩), .func (.func 245) #[] #[.pointer (some pl)]] w fun e w' => e = .returned (.tuple #[]) ∧ w' = ((((w.setCell ⟨b, 10, none⟩ (.int .i32 1)).setCell ⟨b, 12, none⟩ (.bool true)).drew.setCell ⟨b, 9, none⟩ (.int .u32 1)).setCell ⟨b, 10, none⟩ (.int .i32 0)) := by
 have hl := run_call_load (P := Tryz.prog) Tryz.func274 (by kernel_rfl) (by kernel_rfl) (by kernel_rfl) .u32 (by kernel_rfl) h0
 have hnot : ∀ (x : Bool) (w : World), (Op.unary .not (.bool x)).run Tryz.prog w = .ok (.bool (!x)) w := fun _ _ => rfl
 go_enter Tryz.func222, Tryz.ntmps222
 go_wp2_with (first | (go_at_call 253; refine (slow_any b pl hpb x3 _ hp h0 h1 h3 f0 f1 f3).mono ?_; rintro e w' ⟨rfl, rfl⟩) | (go_at_call 252; go_in))
 go_end0
 exact ⟨rfl, rfl⟩
theorem do_done (a : Addr) (d : Int) (hd : ¬ d = 0) (fv : Value) (w : World) (h0 : w.cell? a = some (.int .u32 d)) :
  Calls Tryz.prog 222 #[.pointer (some a), fv] w fun e w' => e = .returned (.tuple #[]) ∧ w' = w := by
 have hl := run_call_load (P := Tryz.prog) Tryz.func274 (by kernel_rfl) (by kernel_rfl) (by kernel_rfl) .u32 (by kernel_rfl) h0
 have hnot : ∀ (x : Bool) (w : World), (Op.unary .not (.bool x)).run Tryz.prog w = .ok (.bool (!x)) w := fun _ _ => rfl
 have hd' : (d != 0) = true := by simp [hd]
 go_enter Tryz.func222, Tryz.ntmps222
 go_wp2
 go_end0
 exact ⟨rfl, rfl⟩
end Once
end
section
open Go Go.RowKit Go.Shelf
structure Acc (F : List Nat) (X : Dw) (w : World) (S : Sd) (w' : World) (X' : Dw) : Prop where
 e : X'.d = X.d
 dm : Dm w' X' S
 c : Chg (F ++ X.foot) w w'
 f : ∀ g ∈ X'.foot, g ∈ X.foot ∨ w.heap.size ≤ g
variable {F : List Nat} {X X1 : Dw} {w w1 w2 : World} {S S1 : Sd}
theorem Acc.start (h : Dm w X S) : Acc F X w S w X := ⟨rfl, h, Chg.refl _ _, fun _ hg => .inl hg⟩
theorem Acc.below (h : Acc F X w S w1 X1) (hb : Below w1.heap.size w1 w2) : Acc F X w S w2 X1 := ⟨h.e, h.dm.below hb, h.c.trans (Chg.of_below hb []) (fun g hg => by cases hg), h.f⟩
theorem Acc.step (h : Acc F X w S w1 X1) (hu : UpdM X1 w1 w2 S1) : ∃ X2, Acc F X w S1 w2 X2 := by
 obtain ⟨X2, e, hd, hc, hf⟩ := hu
 refine ⟨X2, e.trans h.e, hd, h.c.trans hc (fun g hg => ?_), fun g hg => ?_⟩
 ·rcases h.f g hg with h1 | h1
  ·exact .inl (List.mem_append_right _ h1)
  ·exact .inr h1
 ·rcases hf g hg with h1 | h1
  ·exact h.f g h1
  ·exact .inr (Nat.le_trans h.c.size h1)
theorem Acc.other (h : Acc F X w S w1 X1) {G : List Nat} (c : Chg G w1 w2) (hG : ∀ g ∈ G, g ∈ F ∧ g < w.heap.size ∧ g ∉ X.foot ∧ NG ≤ g) : Acc F X w S w2 X1 := by
 refine ⟨h.e, h.dm.chg c (fun g hg => ⟨fun hm => ?_, (hG g hg).2.2.2⟩), h.c.trans c (fun g hg => .inl (List.mem_append_left _ (hG g hg).1)), h.f⟩
 obtain ⟨_, h2, h3, _⟩ := hG g hg
 rcases h.f g hm with h4 | h4
 ·exact h3 h4
 ·omega
theorem Acc.updM (h : Acc [] X w S w1 X1) : UpdM X w w1 S := ⟨X1, h.e, h.dm, by simpa using h.c, h.f⟩
theorem Acc.read (h : Acc F X w S w1 X1) (s : ByteArray) (hs : s.size ≤ maxLen) :
  Calls Tryz.prog 125 #[.pointer (some ⟨X.d, 0, none⟩), .string s] w1 fun e w' => ∃ A c, e = .returned (.tuple #[.slice A (S.read s.data.toList).1.length c, .int .i64 ((S.read s.data.toList).2 : Int)]) ∧
   w'.ownsRow w1.heap.size 5 1 (.slice A (S.read s.data.toList).1.length c) (S.read s.data.toList).1.length (bts (S.read s.data.toList).1) ∧ Below w1.heap.size w1 w' := by
 rw [← h.e]
 exact read_any X1 S s hs h.dm.wf w1 h.dm.dk
theorem Acc.write (h : Acc F X w S w1 X1) (s : ByteArray) (hs : s.size ≤ maxLen) (A : Option Addr) (m c : Nat) (b : List UInt8) (hm : m ≤ 1099511627776) (hl : S.load ≤ 1099511627776) (hr : Row w1.heap.size w1 A m 1 (bts b)) (hA : ∀ a, A = some a → a.block ∉ X1.foot) :
  Calls Tryz.prog 199 #[.pointer (some ⟨X.d, 0, none⟩), .string s, .slice A m c] w1 fun e w' => e = .returned (.int .i64 ((S.write s.data.toList b).2 : Int)) ∧ ∃ X2, Acc F X w (S.write s.data.toList b).1 w' X2 := by
 rw [← h.e]
 exact (write_any X1 S s hs A m c b hm hl w1 h.dm hr hA).mono fun e w' ⟨h1, h2⟩ => ⟨h1, h.step h2⟩
theorem Acc.append (h : Acc F X w S w1 X1) (s : ByteArray) (hs : s.size ≤ maxLen) (A : Option Addr) (m c : Nat) (b : List UInt8) (hm : m ≤ 1099511627776) (hr : Row w1.heap.size w1 A m 1 (bts b)) (hA : ∀ a, A = some a → a.block ∉ X1.foot) :
  Calls Tryz.prog 84 #[.pointer (some ⟨X.d, 0, none⟩), .string s, .slice A m c] w1 fun e w' => e = .returned (.int .i64 ((S.append s.data.toList b).2 : Int)) ∧ ∃ X2, Acc F X w (S.append s.data.toList b).1 w' X2 := by
 rw [← h.e]
 exact (append_any X1 S s hs A m c b hm h.dm.wf w1 h.dm.dk hr (fun a ha e => hA a ha (by rw [e]; exact mem_foot.2 (.inl rfl)))).mono fun e w' ⟨h1, h2⟩ => ⟨h1, h.step (h.dm.upd (h.dm.wf.append _ _) h2)⟩
theorem Acc.create (h : Acc F X w S w1 X1) (s : ByteArray) (hs : s.size ≤ maxLen) (hl : S.load ≤ 1099511627776) :
  Calls Tryz.prog 172 #[.pointer (some ⟨X.d, 0, none⟩), .string s] w1 fun e w' => e = .returned (.int .i64 ((S.create s.data.toList).2 : Int)) ∧ ∃ X2, Acc F X w (S.create s.data.toList).1 w' X2 := by
 rw [← h.e]
 exact (create_any X1 S s hs h.dm.wf hl w1 h.dm.dk).mono fun e w' ⟨h1, h2⟩ => ⟨h1, h.step (h.dm.upd (h.dm.wf.create _) h2)⟩
theorem Acc.sync (h : Acc F X w S w1 X1) (s : ByteArray) (hs : s.size ≤ maxLen) :
  Calls Tryz.prog 173 #[.pointer (some ⟨X.d, 0, none⟩), .string s] w1 fun e w' => e = .returned (.int .i64 ((S.sync s.data.toList).2 : Int)) ∧ ∃ X2, Acc F X w (S.sync s.data.toList).1 w' X2 := by
 rw [← h.e]
 exact (sync_any X1 S s hs h.dm.wf w1 h.dm.dk).mono fun e w' ⟨h1, h2⟩ => ⟨h1, h.step (h.dm.upd (h.dm.wf.sync _) h2)⟩
theorem Acc.remove (h : Acc F X w S w1 X1) (s : ByteArray) (hs : s.size ≤ maxLen) (hl : S.load ≤ 1099511627776) :
  Calls Tryz.prog 100 #[.pointer (some ⟨X.d, 0, none⟩), .string s] w1 fun e w' => e = .returned (.int .i64 ((S.remove s.data.toList).2 : Int)) ∧ ∃ X2, Acc F X w (S.remove s.data.toList).1 w' X2 := by
 rw [← h.e]
 exact (remove_any X1 S s hs h.dm.wf hl w1 h.dm.dk).mono fun e w' ⟨h1, h2⟩ => ⟨h1, h.step (h.dm.upd (h.dm.wf.remove _) h2)⟩
theorem Acc.rename (h : Acc F X w S w1 X1) (s u : ByteArray) (hs : s.size ≤ maxLen) (hu : u.size ≤ maxLen) (hl : S.load ≤ 1099511627776) :
  Calls Tryz.prog 201 #[.pointer (some ⟨X.d, 0, none⟩), .string s, .string u] w1 fun e w' => e = .returned (.int .i64 ((S.rename s.data.toList u.data.toList).2 : Int)) ∧ ∃ X2, Acc F X w (S.rename s.data.toList u.data.toList).1 w' X2 := by
 rw [← h.e]
 exact (rename_any X1 S s u hs hu h.dm.wf hl w1 h.dm.dk).mono fun e w' ⟨h1, h2⟩ => ⟨h1, h.step (h.dm.upd (h.dm.wf.rename _ _) h2)⟩
theorem Acc.syncDir (h : Acc F X w S w1 X1) :
  Calls Tryz.prog 174 #[.pointer (some ⟨X.d, 0, none⟩)] w1 fun e w' => e = .returned (.int .i64 ((S.syncDir).2 : Int)) ∧ ∃ X2, Acc F X w (S.syncDir).1 w' X2 := by
 rw [← h.e]
 exact (syncDir_any X1 S h.dm.wf w1 h.dm.dk).mono fun e w' ⟨h1, h2⟩ => ⟨h1, h.step (h.dm.upd h.dm.wf.syncDir h2)⟩
theorem Acc.list (h : Acc F X w S w1 X1) :
  Calls Tryz.prog 123 #[.pointer (some ⟨X.d, 0, none⟩)] w1 fun e w' => ∃ A c, e = .returned (.slice A S.list.length c) ∧ w'.ownsRow w1.heap.size 9 1 (.slice A S.list.length c) S.list.length (S.list.map Go.Proofs.encStr) ∧ Below w1.heap.size w1 w' := by
 rw [← h.e]
 exact dlist_any X1 S h.dm.wf w1 h.dm.dk
theorem Acc.greatest (h : Acc F X w S w1 X1) (k : ByteArray) (hk : k.size ≤ 1000) :
  Calls Tryz.prog 144 #[.pointer (some ⟨X.d, 0, none⟩), .string k] w1 fun e w' => e = .returned (.int .i64 (Mn.greatest S.list k.data.toList)) ∧ Below w1.heap.size w1 w' := by
 rw [← h.e]
 exact greatest_any X1 S k hk w1 h.dm
def Ms.cells (M : Ms) (xd : Nat) : List Value := [.pointer (some ⟨xd, 0, none⟩), .string (str M.name), .int .i64 (M.v.g : Int), .slice none 0 0, .int .u64 (M.v.f : Int), .int .u64 (M.v.c : Int), .int .u64 (M.v.a : Int), .int .u64 (M.v.l : Int), .int .i64 (M.count : Int), .int .u32 (if M.broken = true then 1 else 0), .int .i32 0, .int .u32 0, .bool M.broken]
abbrev MK (w : World) (m xd : Nat) (M : Ms) : Prop := BoxO w 209 m (M.cells xd)
theorem break_any (m xd : Nat) (M : Ms) (w : World) (h : MK w m xd M) : Calls Tryz.prog 202 #[.pointer (some ⟨m, 0, none⟩)] w fun e w' => e = .returned (.tuple #[]) ∧ MK w' m xd { M with broken := true } ∧ Chg [m] w w' := by
 have hmf : ∀ (fn : Fn) (first cap : Array Value) (w : World), (Instr.makeFunc fn first cap).run Tryz.prog w = .ok (.func fn first cap) w := fun _ _ _ _ => rfl
 have hlt := h.lt
 have h1 : MK (w.alloc (.cells #[.pointer (some ⟨m, 0, none⟩)] 70)) m xd M := BoxO.alloc h _
 have hp : (w.alloc (.cells #[.pointer (some ⟨m, 0, none⟩)] 70)).cell? ⟨w.heap.size, 0, none⟩ = some (.pointer (some ⟨m, 0, none⟩)) := by simp
 have hc1 : Chg [m] w (w.alloc (.cells #[.pointer (some ⟨m, 0, none⟩)] 70)) := (Chg.refl [m] w).alloc _
 generalize hV : w.alloc (.cells #[.pointer (some ⟨m, 0, none⟩)] 70) = V at *
 have c9 := h1.cell 9
 have c10 := h1.cell 10
 have c12 := h1.cell 12
 simp only [Ms.cells, gE0, gE1] at c9 c10 c12
 cases hb : M.broken with
 | false =>
  rw [hb] at c9 c12
  simp only [Bool.false_eq_true, if_false] at c9
  have hdo := Once.do_first m ⟨w.heap.size, 0, none⟩ (by simp; omega) _ V hp c9 c10 c12 (h1.free 9) (h1.free 10) (h1.free 12)
  have hbx := ((((h1.store 10 (.int .i32 1)).store 12 (.bool true)).drew.store 9 (.int .u32 1)).store 10 (.int .i32 0))
  have hcc : Chg [m] V ((((V.setCell ⟨m, 10, none⟩ (.int .i32 1)).setCell ⟨m, 12, none⟩ (.bool true)).drew.setCell ⟨m, 9, none⟩ (.int .u32 1)).setCell ⟨m, 10, none⟩ (.int .i32 0)) := (((((Chg.refl [m] V).setCell _ (.inl (by simp))).setCell _ (.inl (by simp))).drew).setCell _ (.inl (by simp))).setCell _ (.inl (by simp))
  have hres : MK ((((V.setCell ⟨m, 10, none⟩ (.int .i32 1)).setCell ⟨m, 12, none⟩ (.bool true)).drew.setCell ⟨m, 9, none⟩ (.int .u32 1)).setCell ⟨m, 10, none⟩ (.int .i32 0)) m xd { M with broken := true } := hbx
  have HR := Lib.hid (And.intro hres (hc1.trans hcc (fun g hg => .inl hg)))
  clear hres hcc hbx hb
  go_enter Tryz.func202, Tryz.ntmps202
  go_wp2_with fail
  refine hdo.mono ?_
  rintro e w2 ⟨rfl, rfl⟩
  go_wp2
  exact bodyPost_end (v := .tuple #[]) (by simp [results, go_sem]) rfl ⟨rfl, HR.out⟩
 | true =>
  rw [hb] at c9
  simp only [if_true] at c9
  have hdo := Once.do_done ⟨m, 9, none⟩ 1 (by omega) (.func (.func 245) #[] #[.pointer (some ⟨w.heap.size, 0, none⟩)]) V c9
  have hres : MK V m xd { M with broken := true } := by
   have e : ({ M with broken := true } : Ms) = M := by cases M; simp at hb; simp [hb]
   rw [e]
   exact h1
  have HR := Lib.hid (And.intro hres hc1)
  clear hres hb
  go_enter Tryz.func202, Tryz.ntmps202
  go_wp2_with fail
  refine hdo.mono ?_
  rintro e w2 ⟨rfl, hw2⟩
  obtain rfl := hw2.symm
  go_wp2
  exact bodyPost_end (v := .tuple #[]) (by simp [results, go_sem]) rfl ⟨rfl, HR.out⟩
end
end Go.Proofs.YtdkjoigpahafmaaGreatDoor
