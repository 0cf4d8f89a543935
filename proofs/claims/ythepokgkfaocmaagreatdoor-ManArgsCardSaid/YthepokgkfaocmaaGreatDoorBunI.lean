/- Texts DiskH, DiskI in one. No conditions. -/
import Derived.Test.YthepokgkfaocmaaGreatDoorBunH
import Derived.Test.YthepokgkfaocmaaGreatDoorBunG
import Derived.Deep.RegionWith

/-
  The walk of Create of a disk.
-/
namespace Go.Proofs.YthepokgkfaocmaaGreatDoor
open Go Go.RowKit Go.Maps

theorem info_pfile : (Tryz.prog.info? 94).map (fun i => (i.zero, i.size, i.bytes)) = some (some (.pointer none), 1, 8) := by kernel_rfl
theorem create_eq (S : Sd) (s : List UInt8) : S.create s = if (S.call [s]).2 ≠ 0 then S.call [s] else if (S.names.get s).isSome then ((S.call [s]).1, 12) else if 64 ≤ S.names.length then ((S.call [s]).1, 65)
    else ({ (S.call [s]).1 with names := S.names.put s S.files.length, turns := S.turns ++ [⟨1, S.files.length, s, []⟩], files := S.files ++ [([], 0)] }, 0) := rfl

def fileBox (w : World) : World := (w.alloc (.cells #[.slice none 0 0, .int .i64 0] 97)).alloc (.cells #[.pointer (some ⟨w.heap.size, 0, none⟩)] 94)
theorem fileBox_size (w : World) : (fileBox w).heap.size = w.heap.size + 2 := by simp [fileBox]
theorem fileBox_below (w : World) : Below w.heap.size w (fileBox w) := ((Below.refl _ _).alloc (Nat.le_refl _) _).alloc (by simp) _
theorem fileBox_grown {w w4 : World} {X : Dw} {S : Sd} (h : DK w X S) (hg : (fileBox w).grownBy w4 X.fv.ownBlock) : BoxO w4 79 X.d (X.cells S) :=
  (h.box.below (fileBox_below w)).chg (Chg.of_grown (F := X.fv.ownBlock.toList) hg (fun b e => by simp [e])) (fun hm => (h.apart.fv _ (by simpa using hm)).1 rfl)
/-- A file was added, and the row's place in the struct was stored. -/
theorem upd_file {w w4 : World} {X : Dw} {S : Sd} (h : DK w X S) {v : Value} (hg : (fileBox w).grownBy w4 X.fv.ownBlock) (hown : w4.ownsRow 0 94 1 v (S.files.length + 1) (X.ps.map ptrV ++ [.pointer (some ⟨w.heap.size, 0, none⟩)]))
    (hob : v.ownBlock = X.fv.ownBlock ∨ v.ownBlock = some (fileBox w).heap.size) : Upd X w (w4.setCell ⟨X.d, 1, none⟩ v) { S with files := S.files ++ [([], 0)] } := by
  have hbox := fileBox_grown h hg
  have ha := h.apart
  have hsz := fileBox_size w
  have hlt := h.lt
  have hvd : ∀ g, v.ownBlock = some g → g ≠ X.d ∧ g ≠ w.heap.size := fun g e => by
    rcases hob with h1 | h1
    · have h2 := (ha.fv g (by rw [← h1, e])).1
      have h3 := hlt g (mem_foot.2 (.inr (.inr (.inr (.inl (by rw [← h1, e]))))))
      exact ⟨h2, by omega⟩
    · rw [e] at h1
      injection h1 with h1
      have := h.box.lt
      exact ⟨by omega, by omega⟩
  have hc1 : Chg X.fv.ownBlock.toList w w4 := (Chg.of_below (fileBox_below w) _).trans (Chg.of_grown (F := X.fv.ownBlock.toList) hg (fun b e => by simp [e])) (fun g hg => .inl hg)
  have hc2 : Chg ([X.d] ++ X.fv.ownBlock.toList) w (w4.setCell ⟨X.d, 1, none⟩ v) := (hc1.mono (fun g hg => .inl (List.mem_append_right _ hg))).setCell v (.inl (by simp))
  have hv : ∀ g, v.ownBlock = some g → X.fv.ownBlock = some g ∨ w.heap.size ≤ g := fun g e => by
    rcases hob with h1 | h1
    · exact .inl (by rw [← h1, e])
    · rw [e] at h1
      injection h1 with h1
      exact .inr (by omega)
  have hfb0 : BoxO (w.alloc (.cells #[.slice none 0 0, .int .i64 0] 97)) 97 w.heap.size [.slice none 0 0, .int .i64 0] := BoxO.new _ _ _
  have hfb1 : BoxO (fileBox w) 97 w.heap.size [.slice none 0 0, .int .i64 0] := hfb0.alloc _
  have hfb : BoxO w4 97 w.heap.size [.slice none 0 0, .int .i64 0] := hfb1.chg (Chg.of_grown (F := X.fv.ownBlock.toList) hg (fun b e => by simp [e])) (fun hm => by
    have := hlt w.heap.size (mem_foot.2 (.inr (.inr (.inr (.inl (by simpa using hm))))))
    omega)
  have hdk := DK.addFile (w' := w4.setCell ⟨X.d, 1, none⟩ v) (fv := v) (b := w.heap.size) h (by
      have h1 := own_chg hown (chg_set w4 ⟨X.d, 1, none⟩ v) (fun g e hg => (hvd g e).1 (by simpa using hg))
      simpa [ptrV] using h1) (Nat.le_refl _) (fun e => (hvd _ e).2 rfl) (hfb.chg (chg_set w4 ⟨X.d, 1, none⟩ v) (fun hm => by
        have := h.box.lt
        simp at hm
        omega)) hc2 hv (by
      have h1 := hbox.store 1 v
      exact h1)
  refine ⟨{ X with fv := v, ps := X.ps ++ [(w.heap.size, Value.slice none 0 0)] }, rfl, hdk, hc2.mono (fun g hg => .inl ?_), fun g hg => ?_⟩
  · rcases List.mem_append.1 hg with h1 | h1
    · rw [List.mem_singleton.1 h1]; exact mem_foot.2 (.inl rfl)
    · exact mem_foot.2 (.inr (.inr (.inr (.inl (by simpa using h1)))))
  · rcases mem_foot.1 hg with h1 | h1 | h1 | h1 | h1 | ⟨p, hp, hgp⟩
    · exact .inl (mem_foot.2 (.inl h1))
    · exact .inl (mem_foot.2 (.inr (.inl h1)))
    · exact .inl (mem_foot.2 (.inr (.inr (.inl h1))))
    · rcases hv g h1 with h2 | h2
      · exact .inl (mem_foot.2 (.inr (.inr (.inr (.inl h2)))))
      · exact .inr h2
    · exact .inl (mem_foot.2 (.inr (.inr (.inr (.inr (.inl h1))))))
    · rcases List.mem_append.1 hp with hp | hp
      · exact .inl (mem_foot.2 (.inr (.inr (.inr (.inr (.inr ⟨p, hp, hgp⟩))))))
      · rw [List.mem_singleton.1 hp] at hgp
        simp [fileFoot, Value.ownBlock] at hgp
        exact .inr (by omega)

set_option maxRecDepth 100000 in
set_option maxHeartbeats 2000000 in
theorem create_any (X : Dw) (S : Sd) (s : ByteArray) (hs : s.size ≤ maxLen) (hw : S.Wf) (hl : S.load ≤ 1099511627776) (w : World) (h : DK w X S) :
    Calls Tryz.prog 17 #[.pointer (some ⟨X.d, 0, none⟩), .string s] w fun e w' => e = .returned (.int .i64 ((S.create s.data.toList).2 : Int)) ∧ Upd X w w' (S.create s.data.toList).1 := by
  have hcall := call1 X S s hs hw w h
  have hw1 := hw.call [s.data.toList]
  have hld := Sd.call_load S [s.data.toList]
  obtain ⟨e1, e2, e3, e4, e5, _, _⟩ := Sd.call_same S [s.data.toList]
  have hsy := create_eq S s.data.toList
  generalize S.call [s.data.toList] = R at *
  obtain ⟨S1, er⟩ := R
  simp only at *
  by_cases h0 : er = 0
  · subst h0
    rw [if_neg (by simp)] at hsy
    have hfd := fun w1 h1 => find_any X S1 s hs w1 h1 hw1.names
    cases h3 : S.names.get s.data.toList with
    | some i =>
      simp only [h3, Option.isSome_some, if_true] at hsy
      rw [hsy]
      simp only [e1, h3] at hfd
      clear hsy h3 e1 e2 e3 e4 e5 hw1 hw h hld
      go_enter Tryz.func17, Tryz.ntmps17
      go_wp2_with fail
      refine hcall.mono ?_
      rintro e w1 ⟨rfl, h1, hc1⟩
      go_wp2_with fail
      refine (hfd w1 h1).mono ?_
      rintro e w2 ⟨rfl, rfl⟩
      unfold ptrV
      go_wp2
      go_ret
      exact ⟨rfl, Upd.called h1 hc1⟩
    | none =>
      simp only [h3, Option.isSome_none, Bool.false_eq_true, if_false] at hsy
      simp only [e1, h3] at hfd
      by_cases hm : 64 ≤ S.names.length
      · rw [if_pos hm] at hsy
        rw [hsy]
        have hm1 : (64 : Int) ≤ (S1.names.length : Int) := by rw [e1]; omega
        clear hsy h3 e1 e2 e3 e4 e5 hw h hld hm
        go_enter Tryz.func17, Tryz.ntmps17
        go_wp2_with fail
        refine hcall.mono ?_
        rintro e w1 ⟨rfl, h1, hc1⟩
        go_wp2_with fail
        refine (hfd w1 h1).mono ?_
        rintro e w2 ⟨rfl, rfl⟩
        have d2 := h1.box.cell 2
        have hn := Lib.hid h1.names
        have hsz := Nm.enc_size S1.names
        simp only [Dw.cells, List.getElem?_cons_zero, List.getElem?_cons_succ] at d2
        go_wp2_with (at_len; refine wpList_len_own _ rfl _ 70 rfl 9 3 Tryz.underlying70 _ X.nb _ _ rfl hn.out ?_; rw [hsz])
        go_wp2
        go_ret
        exact ⟨rfl, Upd.called h1 hc1⟩
      · rw [if_neg hm] at hsy
        have hm1 : (S1.names.length : Int) < 64 := by rw [e1]; omega
        have hm2 : S1.names.length < maxLen := by unfold maxLen; omega
        rw [hsy, ← e1, ← e4, ← e3]
        have hml : S1.turns.length + 1 ≤ 1099511627777 ∧ S1.files.length + 1 ≤ 1099511627777 := by unfold Sd.load at hld hl; omega
        obtain ⟨hml, hmf⟩ := hml
        clear hsy h3 e1 e2 e3 e4 e5 hw h hld hm
        have hkey := key_s hs
        have HP := Lib.hid (Nm.enc_put S1.names s.data.toList S1.files.length)
        have hwf : (Lit.int .i64 (S1.files.length : Int)).wf = true := WalkArith.wf_i64 (by omega)
        go_enter Tryz.func17, Tryz.ntmps17
        go_wp2_with fail
        refine hcall.mono ?_
        rintro e w1 ⟨rfl, h1, hc1⟩
        go_wp2_with fail
        refine (hfd w1 h1).mono ?_
        rintro e w2 ⟨rfl, rfl⟩
        have d2 := h1.box.cell 2
        have d1 := h1.box.cell 1
        have hn := Lib.hid h1.names
        have hsz := Nm.enc_size S1.names
        obtain ⟨fA, fc, hfv, _, _, _⟩ := own_form h1.files
        simp only [Dw.cells, List.getElem?_cons_zero, List.getElem?_cons_succ] at d2 d1
        rw [hfv] at d1
        go_wp2_with (at_len; refine wpList_len_own _ rfl _ 70 rfl 9 3 Tryz.underlying70 _ X.nb _ _ rfl hn.out ?_; rw [hsz])
        go_wp2
        go_still_tail 10, (by kernel_rfl)
        change wpList _ _ _ _ _ (World.drew w1)
        go_wp2_with (at_mapUpdate; refine wpList_mapUpdate_own _ rfl _ _ _ 70 rfl 9 3 law_s Tryz.underlying70 _ X.nb _ _ rfl hn.out.drew hm2 _ _ _ rfl rfl hkey _ [] (plainElem_int Tryz.underlying3 hwf) ?_; intro w3 hown3 hgrow3)
        rw [HP.out] at hown3
        have hc3 : Chg [X.nb] w1 w3 := (Chg.refl [X.nb] w1).drew.trans (Chg.of_grown (F := [X.nb]) hgrow3 (fun b hb => by cases hb; simp)) (fun g hg => .inl hg)
        have h3 := h1.setNames hown3 hc3
        clear hown3 hgrow3 HP hn d2 d1 hsz
        have d4 := h3.box.cell 4
        have d1 := h3.box.cell 1
        have hxd := h3.box.lt
        obtain ⟨tA, tc, htv, _, _, _⟩ := own_form h3.turns
        simp only [Dw.cells, List.getElem?_cons_zero, List.getElem?_cons_succ] at d4 d1
        rw [htv] at d4
        rw [hfv] at d1
        have hrow4 := own_base h3.turns (Nat.zero_le _)
        rw [htv] at hrow4
        have hpre := fun (o : Obj) (w4 : World) (hg : ((w3.alloc o).drew).grownBy w4 (Value.slice tA S1.turns.length tc).ownBlock) => (⟨(grown_box h3 (by rw [htv]; exact hg)).cell 4, (grown_box h3 (by rw [htv]; exact hg)).free 4⟩ : w4.cell? ⟨X.d, 4, none⟩ = _ ∧ w4.frozen? ⟨X.d, 4, none⟩ = false)
        have hpost := fun (o : Obj) (w4 : World) (v : Value) (hg : ((w3.alloc o).drew).grownBy w4 (Value.slice tA S1.turns.length tc).ownBlock) hown hob => upd_turnD (o := o) (w4 := w4) (v := v) h3 ⟨1, S1.files.length, s.data.toList, []⟩ (by rw [htv]; exact hg) hown (by rw [htv]; exact hob)
        simp only [turnCells, str_list] at hpost
        have HPO := Lib.hid hpost
        have HPR := Lib.hid hpre
        obtain ⟨i0, hi0, hz0, hz1, hz2⟩ := info_parts info_turn
        clear hpost hpre h1 htv
        go_wp2
        go_region_law (refine step_appF rfl (.tmp 39) (.tmp 47) _ rfl 0 101 i0 _ 4 48 Tryz.underlying72 hi0 hz0 hz1 hz2 rfl (by omega) (Nat.zero_le _) (.slice tA S1.turns.length tc) S1.turns.length _ rfl (hrow4.alloc _).drew _ (some ⟨w3.heap.size, 0, none⟩) 1 1 (by omega) [.int .i64 1, .int .i64 (S1.files.length : Int), .string s, .string ⟨#[]⟩] rfl (Row.new w3 #[.int .i64 1, .int .i64 (S1.files.length : Int), .string s, .string ⟨#[]⟩] 101 (n := 1) (size := 4) rfl).drew (by simp [Value.oneCell']) (S1.turns.length + 1) _ rfl rfl (by unfold maxLen; omega) (by omega) ?_; intro A4 c4 w4 hown4 hg4 _ _ hob4; obtain ⟨q4, q5⟩ := HPR.out _ _ hg4; have HO := Lib.hid (HPO.out _ _ _ hg4 hown4 hob4); clear hg4 hown4 hob4; simp only [Dw.cells, List.getElem?_cons_zero, List.getElem?_cons_succ] at q4)
        all_goals
          obtain ⟨h5, hc5, hf5⟩ := HO.out
          clear HO HPO HPR hrow4 d4 d1 q4 q5 h3 hxd
          generalize w4.setCell ⟨X.d, 4, none⟩ (.slice A4 (S1.turns.length + 1) c4) = w5 at *
          have d1 := h5.box.cell 1
          simp only [Dw.cells, List.getElem?_cons_zero, List.getElem?_cons_succ] at d1
          rw [hfv] at d1
          have hrow := h5.files
          have hpre := fun (w6 : World) (hg : (fileBox w5).grownBy w6 (Value.slice fA S1.files.length fc).ownBlock) => (⟨(fileBox_grown h5 (by simp only [hfv]; exact hg)).cell 1, (fileBox_grown h5 (by simp only [hfv]; exact hg)).free 1⟩ : w6.cell? ⟨X.d, 1, none⟩ = _ ∧ w6.frozen? ⟨X.d, 1, none⟩ = false)
          have hpost := fun (w6 : World) (v : Value) (hg : (fileBox w5).grownBy w6 (Value.slice fA S1.files.length fc).ownBlock) hown hob => upd_file (w4 := w6) (v := v) h5 (by simp only [hfv]; exact hg) hown (by simp only [hfv]; exact hob)
          simp only [hfv] at hrow
          have HPO := Lib.hid hpost
          have HPR := Lib.hid hpre
          have HRW := Lib.hid hrow
          clear hpost hpre hrow hfv
          obtain ⟨j0, hj0, hy0, hy1, hy2⟩ := info_parts info_pfile
          have HTR : ∀ w7 S7, Upd { X with tv := .slice A4 (S1.turns.length + 1) c4 } w5 w7 S7 → Upd X w w7 S7 := fun w7 S7 hu =>
            Upd.after hc1 (Upd.trans (X1 := { X with tv := .slice A4 (S1.turns.length + 1) c4 }) rfl ((hc3.mono (fun g hg => .inl (by rw [List.mem_singleton.1 hg]; exact mem_foot.2 (.inr (.inl rfl))))).trans hc5 (fun g hg => .inl hg)) (fun g hg => by
              rcases hf5 g hg with h1 | h1
              · exact .inl h1
              · exact .inr (Nat.le_trans hc3.size h1)) hu)
          have HT := Lib.hid HTR
          clear HTR hc1 hc3 hc5 hf5
          go_wp2_with (at_builtin; refine stop_in ?_)
          refine stop_out (wpList_appF rfl (.tmp 55) (.tmp 58) _ rfl 0 94 j0 _ 1 8 Tryz.underlying71 hj0 hy0 hy1 hy2 rfl (by omega) (fileBox w5) (Below.refl _ _) (Nat.zero_le _) (.slice fA S1.files.length fc) S1.files.length _ rfl (own_below HRW.out (fileBox_below w5)) (w5.heap.size + 2) (some ⟨w5.heap.size + 1, 0, none⟩) 1 1 (by omega) [.pointer (some ⟨w5.heap.size, 0, none⟩)] (by simp [Act.eval]) ?rw (by simp [Value.oneCell']) (S1.files.length + 1) _ rfl rfl (by unfold maxLen; omega) (by omega) ?_)
          case rw =>
            have h9 := Row.new (w5.alloc (.cells #[.slice none 0 0, .int .i64 0] 97)) #[.pointer (some ⟨w5.heap.size, 0, none⟩)] 94 (n := 1) (size := 1) rfl
            simpa using h9
          intro A6 c6 w6 hown6 _ hg6 _ _ hob6
          obtain ⟨q4, q5⟩ := HPR.out _ hg6
          have HO := Lib.hid (HT.out _ _ (HPO.out _ _ hg6 hown6 hob6))
          simp only [Dw.cells, List.getElem?_cons_zero, List.getElem?_cons_succ] at q4
          clear hg6 hown6 hob6 HT HPO HPR HRW
          go_wp2
          go_ret
          exact ⟨rfl, HO.out⟩
  · have hne := neq0 h0
    rw [if_pos h0] at hsy
    rw [hsy]
    clear hsy e1 e2 e3 e4 e5 h0 hld
    go_enter Tryz.func17, Tryz.ntmps17
    go_wp2_with fail
    refine hcall.mono ?_
    rintro e w1 ⟨rfl, h1, hc1⟩
    go_wp2
    go_ret
    exact ⟨rfl, Upd.called h1 hc1⟩
end Go.Proofs.YthepokgkfaocmaaGreatDoor

/-
  The walk of Append of a disk.
-/
namespace Go.Proofs.YthepokgkfaocmaaGreatDoor
open Go Go.RowKit Go.Maps

theorem append_eq (S : Sd) (s b : List UInt8) : S.append s b = if (S.call [s]).2 ≠ 0 then S.call [s] else match S.names.get s with
    | none => ((S.call [s]).1, 11)
    | some i => if 250000 < b.length ∨ 250000 < S.size i + b.length then ((S.call [s]).1, 2) else if S.quota < S.used + b.length then ((S.call [s]).1, 15)
      else ({ (S.call [s]).1 with files := S.files.set i ((S.files.getD i ([], 0)).1 ++ b, (S.files.getD i ([], 0)).2) }, 0) := rfl
theorem Row.chg_not {w w' : World} {B n size : Nat} {A : Option Addr} {xs : List Value} {G : List Nat} (r : Row B w A n size xs) (h : Chg G w w') (hB : B ≤ w.heap.size) (hF : ∀ a, A = some a → a.block ∉ G) : Row w'.heap.size w' A n size xs :=
  (h.row r hB hF).up (Nat.le_trans hB h.size)
theorem DK.drew {w : World} {X : Dw} {S : Sd} (h : DK w X S) : DK w.drew X S := h.chg ((Chg.refl [] w).drew) (fun g hg => by cases hg)
/-- A file in memory was appended to. -/
theorem upd_app {w w4 : World} {X : Dw} {S : Sd} (h : DK w X S) {i : Nat} (hi : i < S.files.length) (hip : i < X.ps.length) {b : List UInt8} {v : Value} (hg : w.grownBy w4 (X.ps[i]).2.ownBlock)
    (hown : w4.ownsRow 0 5 1 v ((S.files[i]).1.length + b.length) (bts (S.files[i]).1 ++ bts b)) (hob : v.ownBlock = (X.ps[i]).2.ownBlock ∨ v.ownBlock = some w.heap.size) :
    (w4.cell? ⟨(X.ps[i]).1, 0, none⟩ = some (X.ps[i]).2 ∧ w4.frozen? ⟨(X.ps[i]).1, 0, none⟩ = false) ∧ Upd X w (w4.setCell ⟨(X.ps[i]).1, 0, none⟩ v) { S with files := S.files.set i ((S.files[i]).1 ++ b, (S.files[i]).2) } := by
  have hfile := h.file i hi hip
  have hself := h.apart.self _ (List.getElem_mem hip)
  have hv : ∀ g, v.ownBlock = some g → (X.ps[i]).2.ownBlock = some g ∨ w.heap.size ≤ g := fun g e => by
    rcases hob with h1 | h1
    · exact .inl (by rw [← h1, e])
    · rw [e] at h1
      injection h1 with h1
      exact .inr (by omega)
  have key := fun (w2 : World) (hf : FileAt w2 ((X.ps[i]).1, v) ((S.files[i]).1 ++ b, (S.files[i]).2)) (c : Chg (fileFoot X.ps[i]) w w2) => DK.setFile h hip hf c hv
  have hfo := foot_set hip hv
  have hffo := fun g hg => file_foot (X := X) (i := i) hip (g := g) hg
  generalize S.files[i] = f at *
  generalize X.ps[i] = p at *
  obtain ⟨hfb, hfr⟩ := hfile
  have hc1 : Chg p.2.ownBlock.toList w w4 := Chg.of_grown hg (fun b e => by simp [e])
  have hfb4 := hfb.chg hc1 (fun hm => hself (by simpa using hm))
  have hset := hfb4.store 0 v
  have hcs := chg_set w4 ⟨p.1, 0, none⟩ v
  have hvp : ∀ g, v.ownBlock = some g → g ≠ p.1 := fun g e e2 => by
    subst e2
    rcases hv _ e with h1 | h1
    · exact hself h1
    · have := hfb.lt
      omega
  have hrow := own_chg hown hcs (fun g e hg => hvp g e (by simpa using hg))
  have hcm : Chg (fileFoot p) w (w4.setCell ⟨p.1, 0, none⟩ v) := (hc1.mono (G := fileFoot p) (fun g hg => .inl (by simp only [fileFoot, List.mem_cons]; exact .inr hg))).setCell v (.inl (by simp [fileFoot]))
  have hdk := key _ ⟨hset, by simpa [bts_append] using hrow⟩ hcm
  have e0 := hfb4.cell 0
  simp only [List.getElem?_cons_zero] at e0
  exact ⟨⟨e0, hfb4.free 0⟩, ⟨{ X with ps := X.ps.set i (p.1, v) }, rfl, hdk, hcm.mono (fun g hg => .inl (hffo g hg)), hfo⟩⟩

set_option maxRecDepth 100000 in
set_option maxHeartbeats 2000000 in
theorem append_any (X : Dw) (S : Sd) (s : ByteArray) (hs : s.size ≤ maxLen) (A : Option Addr) (m c : Nat) (b : List UInt8) (hm : m ≤ 1099511627776) (hw : S.Wf) (w : World) (h : DK w X S) (hr : Row w.heap.size w A m 1 (bts b)) (hA : ∀ a, A = some a → a.block ≠ X.d) :
    Calls Tryz.prog 18 #[.pointer (some ⟨X.d, 0, none⟩), .string s, .slice A m c] w fun e w' => e = .returned (.int .i64 ((S.append s.data.toList b).2 : Int)) ∧ Upd X w w' (S.append s.data.toList b).1 := by
  have hcall := call1 X S s hs hw w h
  have hw1 := hw.call [s.data.toList]
  have hbl : b.length = m := hr.btlen
  obtain ⟨e1, e2, e3, e4, e5, _, _⟩ := Sd.call_same S [s.data.toList]
  have e6 := Sd.call_used S [s.data.toList]
  have hsy := append_eq S s.data.toList b
  generalize S.call [s.data.toList] = R at *
  obtain ⟨S1, er⟩ := R
  simp only at *
  by_cases h0 : er = 0
  · subst h0
    rw [if_neg (by simp)] at hsy
    have hfd := fun w1 h1 => find_any X S1 s hs w1 h1 hw1.names
    cases h3 : S.names.get s.data.toList with
    | none =>
      simp only [h3] at hsy
      rw [hsy]
      simp only [e1, h3] at hfd
      clear hsy h3 e1 e2 e3 e4 e5 e6 hw1 hw h hbl
      go_enter Tryz.func18, Tryz.ntmps18
      go_wp2_with fail
      refine hcall.mono ?_
      rintro e w1 ⟨rfl, h1, hc1⟩
      go_wp2_with fail
      refine (hfd w1 h1).mono ?_
      rintro e w2 ⟨rfl, rfl⟩
      go_wp2
      go_ret
      exact ⟨rfl, Upd.called h1 hc1⟩
    | some i =>
      simp only [h3] at hsy
      simp only [e1, h3] at hfd
      have hi : i < S1.files.length := by rw [e3]; exact hw.names _ (Nm.get_mem h3)
      have hsz : S.size i = (S1.files[i]).1.length := by simp [Sd.size, ← e3, List.getD_eq_getElem?_getD, hi]
      have hgd : S.files.getD i ([], 0) = S1.files[i] := by simp [← e3, List.getD_eq_getElem?_getD, hi]
      have hlen := (hw1.file i hi).2
      have hus := Sd.used_le hw1
      have hq := hw1.quota
      rw [hgd, hsz, ← e3, ← e5, ← e6, hbl] at hsy
      obtain ⟨p, hp⟩ : ∃ p, p = X.ps.getD i (0, Go.undef) := ⟨_, rfl⟩
      rw [← hp] at hfd
      have hE : ∀ (w1 : World) (h1 : DK w1 X S1), ∃ fA fc, p.2 = .slice fA (S1.files[i]).1.length fc ∧ w1.cell? ⟨p.1, 0, none⟩ = some (.slice fA (S1.files[i]).1.length fc) := fun w1 h1 => by
        have hip : i < X.ps.length := by rw [h1.flen]; exact hi
        have hptr : X.ps.getD i (0, Go.undef) = X.ps[i] := by simp [List.getD_eq_getElem?_getD, hip]
        obtain ⟨hfb, hfr⟩ := h1.file i hi hip
        obtain ⟨fA, fc, hfv, _⟩ := own_form hfr
        have e0 := hfb.cell 0
        simp only [List.getElem?_cons_zero] at e0
        rw [hp, hptr]
        exact ⟨fA, fc, hfv, by rw [e0, hfv]⟩
      by_cases hlong : 250000 < m ∨ 250000 < (S1.files[i]).1.length + m
      · rw [if_pos hlong] at hsy
        rw [hsy]
        have HE := Lib.hid hE
        clear hp hE hsy hsz hgd h3 e1 e2 e3 e4 e5 e6 hw hbl h hus hq
        generalize (S1.files[i]).1.length = F at *
        by_cases hl1 : 250000 < m
        · have hl1' : (250000 : Int) < (m : Int) := by omega
          go_enter Tryz.func18, Tryz.ntmps18
          go_wp2_with fail
          refine hcall.mono ?_
          rintro e w1 ⟨rfl, h1, hc1⟩
          go_wp2_with fail
          refine (hfd w1 h1).mono ?_
          rintro e w2 ⟨rfl, rfl⟩
          unfold ptrV
          go_wp2
          go_ret
          exact ⟨rfl, Upd.called h1 hc1⟩
        · have hl1' : ((250000 : Int) < (m : Int)) = False := by simp; omega
          have hl2' : (250000 : Int) - (m : Int) < (F : Int) := by omega
          go_enter Tryz.func18, Tryz.ntmps18
          go_wp2_with fail
          refine hcall.mono ?_
          rintro e w1 ⟨rfl, h1, hc1⟩
          go_wp2_with fail
          refine (hfd w1 h1).mono ?_
          rintro e w2 ⟨rfl, rfl⟩
          obtain ⟨fA, fc, _, e0⟩ := HE.out w1 h1
          unfold ptrV
          go_wp2
          go_ret
          exact ⟨rfl, Upd.called h1 hc1⟩
      · rw [if_neg hlong] at hsy
        have hl1' : ((250000 : Int) < (m : Int)) = False := by simp; omega
        have hl2' : ((250000 : Int) - (m : Int) < ((S1.files[i]).1.length : Int)) = False := by simp; omega
        have hsub : (250000 : Int) - (m : Int) ≤ 250000 := by omega
        have hm' : m ≤ 250000 := by omega
        have hip : ∀ w1, DK w1 X S1 → i < X.ps.length := fun w1 h1 => by rw [h1.flen]; exact hi
        have hfin : ∀ (w1 w4 : World) (v : Value) (h1 : DK w1 X S1) (hg : w1.grownBy w4 p.2.ownBlock) (hown : w4.ownsRow 0 5 1 v ((S1.files[i]).1.length + m) (bts (S1.files[i]).1 ++ bts b)) (hob : v.ownBlock = p.2.ownBlock ∨ v.ownBlock = some w1.heap.size),
            (w4.cell? ⟨p.1, 0, none⟩ = some p.2 ∧ w4.frozen? ⟨p.1, 0, none⟩ = false) ∧ Upd X w1 (w4.setCell ⟨p.1, 0, none⟩ v) { S1 with files := S1.files.set i ((S1.files[i]).1 ++ b, (S1.files[i]).2) } := fun w1 w4 v h1 hg hown hob => by
          have hptr : p = X.ps[i]'(hip w1 h1) := by rw [hp]; simp [List.getD_eq_getElem?_getD, hip w1 h1]
          rw [hptr] at hg hob ⊢
          exact upd_app h1 hi (hip w1 h1) hg (by rw [hbl]; exact hown) hob
        have hrow : ∀ w1, DK w1 X S1 → w1.ownsRow 0 5 1 p.2 (S1.files[i]).1.length (bts (S1.files[i]).1) := fun w1 h1 => by
          have hptr : p = X.ps[i]'(hip w1 h1) := by rw [hp]; simp [List.getD_eq_getElem?_getD, hip w1 h1]
          rw [hptr]
          exact (h1.file i hi (hip w1 h1)).row
        have HE := Lib.hid hE
        have HFIN := Lib.hid hfin
        have HROW := Lib.hid hrow
        have huse := fun w1 h1 => used_any X S1 w1 h1 hw1.names (Nat.le_trans hus (by omega))
        clear hE hp hfin hrow hsz hgd h3 e1 e2 e3 e4 e5 e6 hw hbl h hlong hip
        have hqd : ∀ w1, DK w1 X S1 → w1.cell? ⟨X.d, 0, none⟩ = some (.int .i64 (S1.quota : Int)) := fun w1 h1 => by rw [h1.box.cell 0]; rfl
        have HQD := Lib.hid hqd
        clear hqd
        obtain ⟨i0, hi0, hz0, hz1, hz2⟩ := info_parts info_u8
        have hq1 : IntKind.i64.wrap ((S1.quota : Int) - (m : Int)) = (S1.quota : Int) - (m : Int) := by
          have hb : -9223372036854775808 ≤ (S1.quota : Int) - (m : Int) ∧ (S1.quota : Int) - (m : Int) ≤ 9223372036854775807 := by omega
          rw [IntKind.wrap_i64]
          have hw := IntWalk.wrap64_in _ hb
          unfold wrap64 at hw
          exact hw
        have HQ1 := Lib.hid hq1
        clear hq1
        by_cases hqf : S1.quota < S1.used + m
        · rw [if_pos hqf] at hsy
          rw [hsy]
          have hqf' : (S1.quota : Int) - (m : Int) < (S1.used : Int) := by omega
          clear hsy hqf
          generalize (S1.files[i]).1.length = F at *
          go_enter Tryz.func18, Tryz.ntmps18
          go_wp2_with fail
          refine hcall.mono ?_
          rintro e w1 ⟨rfl, h1, hc1⟩
          go_wp2_with fail
          refine (hfd w1 h1).mono ?_
          rintro e w2 ⟨rfl, rfl⟩
          obtain ⟨fA, fc, hpv, e0⟩ := HE.out w1 h1
          have q0 := HQD.out w1 h1
          have hUSE := Lib.hid huse
          clear huse hpv
          unfold ptrV
          go_wp2
          have hq1 := HQ1.out
          go_region_with ((go_at_call 49; refine (hUSE.out _ h1.drew).mono ?_; rintro e w2 ⟨rfl, hb2⟩; have q0 := HQD.out w2 (h1.drew.below hb2)))
          all_goals
            have hfinal : Upd X w w2 S1 := Upd.called (h1.drew.below hb2) (hc1.trans ((Chg.refl [X.d] w1).drew.trans (Chg.of_below hb2 [X.d]) (fun g hg => .inl hg)) (fun g hg => .inl hg))
            clear q0
            go_wp2
            go_ret
            exact ⟨rfl, hfinal⟩
        · rw [if_neg hqf] at hsy
          rw [hsy]
          have hqf' : ((S1.quota : Int) - (m : Int) < (S1.used : Int)) = False := by simp; omega
          clear hsy hqf
          obtain ⟨f, hf⟩ : ∃ f, f = S1.files[i] := ⟨_, rfl⟩
          rw [← hf] at HROW HFIN HE hl2' hlen ⊢
          clear hf
          go_enter Tryz.func18, Tryz.ntmps18
          go_wp2_with fail
          refine hcall.mono ?_
          rintro e w1 ⟨rfl, h1, hc1⟩
          go_wp2_with fail
          refine (hfd w1 h1).mono ?_
          rintro e w2 ⟨rfl, rfl⟩
          obtain ⟨fA, fc, hpv, e0⟩ := HE.out w1 h1
          have HPV := Lib.hid hpv
          have q0 := HQD.out w1 h1
          have hUSE := Lib.hid huse
          have hrA := Lib.hid (Row.chg_not hr hc1 (Nat.le_refl _) (fun a e hg => hA a e (by simpa using hg)))
          clear huse hpv
          unfold ptrV
          go_wp2
          have hq1 := HQ1.out
          go_region_with ((go_at_call 49; refine (hUSE.out _ h1.drew).mono ?_; rintro e w2 ⟨rfl, hb2⟩; have q0 := HQD.out w2 (h1.drew.below hb2)))
          all_goals
            have h2 := h1.drew.below hb2
            have hc2 : Chg [X.d] w w2 := hc1.trans ((Chg.refl [X.d] w1).drew.trans (Chg.of_below hb2 [X.d]) (fun g hg => .inl hg)) (fun g hg => .inl hg)
            have hr2 := Lib.hid ((hrA.out.drew.below hb2).arg (Nat.le_trans (by simp) hb2.size))
            have e2 : w2.cell? ⟨p.1, 0, none⟩ = some (.slice fA f.1.length fc) := by
              obtain ⟨fA', fc', h7, h8⟩ := HE.out w2 h2
              rw [h8, ← h7, HPV.out]
            have hrw := HROW.out w2 h2
            rw [HPV.out] at hrw
            have HRW := Lib.hid hrw
            have hfn := fun w4 v => HFIN.out w2 w4 v h2
            rw [HPV.out] at hfn
            have HFN := Lib.hid hfn
            clear q0 e0 hrw hfn hrA hq1 hl2'
            go_wp2_with (at_builtin; refine stop_in ?_)
            refine stop_out (wpList_appG rfl (.tmp 52) (.tmp 53) _ rfl 0 5 i0 _ 1 1 Tryz.underlying32 hi0 hz0 hz1 hz2 rfl (by omega) (Nat.zero_le _) (.slice fA f.1.length fc) f.1.length _ rfl HRW.out _ A m c (bts b) rfl hr2.out (bts_one _) (f.1.length + m) _ rfl rfl (by unfold maxLen; omega) (by omega) ?_)
            intro A4 c4 w4 hown4 hg4 _ _ hob4
            obtain ⟨⟨q4, q5⟩, hup⟩ := HFN.out _ _ hg4 hown4 hob4
            have HU := Lib.hid (Upd.after hc2 hup)
            clear hown4 hg4 hob4 HRW HFN hup e2
            go_wp2
            go_ret
            exact ⟨rfl, HU.out⟩
  · have hne := neq0 h0
    rw [if_pos h0] at hsy
    rw [hsy]
    clear hsy e1 e2 e3 e4 e5 h0 e6
    go_enter Tryz.func18, Tryz.ntmps18
    go_wp2_with fail
    refine hcall.mono ?_
    rintro e w1 ⟨rfl, h1, hc1⟩
    go_wp2
    go_ret
    exact ⟨rfl, Upd.called h1 hc1⟩
end Go.Proofs.YthepokgkfaocmaaGreatDoor
