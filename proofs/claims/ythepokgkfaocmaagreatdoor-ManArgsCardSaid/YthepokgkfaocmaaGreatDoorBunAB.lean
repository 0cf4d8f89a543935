/- Texts ManI in one. No conditions. -/
import Derived.Test.YthepokgkfaocmaaGreatDoorBunAA
import Derived.Test.YthepokgkfaocmaaGreatDoorBunN
import Derived.Test.YthepokgkfaocmaaGreatDoorBunZ

/-
  The walk of a manifest's rewrite, for any View.
-/
namespace Go.Proofs.YthepokgkfaocmaaGreatDoor
open Go Go.RowKit Go.Shelf
variable {P : Sl} {m : Nat} {X X1 : Dw} {w w1 w2 : World} {S S1 : Sd} {M M1 : Gs}

set_option maxRecDepth 100000 in
set_option maxHeartbeats 1600000 in
theorem grewrite_any (nm : ByteArray) (hnm : nm.size ≤ 1000) (hv : M.v.ok = true) (hld : S.load ≤ 1000000000000) (h0 : Gst P m X w S M w X) :
    Calls Tryz.prog 40 #[.pointer (some ⟨m, 0, none⟩), .string nm] w (GLeft m X w (Gw.rewrite S M nm.data.toList)) := by
  have hmk := h0.man
  have c0 := hmk.cell 0
  have c2 := hmk.cell 2
  have c3 := hmk.cell 3
  have c4 := hmk.cell 4
  have c5 := hmk.cell 5
  have c6 := hmk.cell 6
  have c7 := hmk.cell 7
  simp only [Gs.cells, List.getElem?_cons_zero, List.getElem?_cons_succ] at c0 c2 c3 c4 c5 c6 c7
  obtain ⟨R, hR⟩ : ∃ R, R = Gw.rewrite S M nm.data.toList := ⟨_, rfl⟩
  rw [← hR]
  have hrl := Ed.rec_len (Vw.whole_may hv)
  have hput := fun A n c W hr => eput_gen none 0 0 [] M.v.whole none 0 0 A n c W (Vw.whole_may hv) Row.nil_ hr (by omega) (by omega) (by unfold maxLen; omega) Row.nil_
  have hwh := whole_gen M.v P.a P.n P.c w (by have := h0.row.nb; omega) h0.row.row
  have hRR : R = if (S.write nm.data.toList M.v.whole.rec_).2 ≠ 0 then ((S.write nm.data.toList M.v.whole.rec_).1, M, (S.write nm.data.toList M.v.whole.rec_).2) else Gw.tmp (S.write nm.data.toList M.v.whole.rec_).1 M nm.data.toList := hR
  have hrec : ([] : List UInt8) ++ M.v.whole.rec_ = M.v.whole.rec_ := rfl
  rw [hrec] at hput
  unfold Vw.val at hwh
  unfold Ed.val at hwh hput
  have HR := Lib.hid hRR
  have HP := Lib.hid hput
  clear hR hput hRR hrec
  go_enter Tryz.func40, Tryz.ntmps40
  go_wp2_with fail
  refine hwh.mono ?_
  rintro e w1 ⟨A1, n1c, rfl, hfr, hb1⟩
  have h1 := h0.below hb1
  have hput := HP.out A1 P.n n1c w1 hfr.row
  clear hwh hfr HP
  go_wp2_with fail
  refine hput.mono ?_
  rintro e w2 ⟨A, K, c, rfl, hown, hKc, hcm, hb2⟩
  have h2 := h1.below hb2
  have hrow := Row.own hown
  have hKl : K ≤ 1099511627776 := by
    have e1 := hrow.btlen
    omega
  have hA : ∀ a, A = some a → a.block ∉ X.foot := fun a ha hm => by
    obtain ⟨A', c', e, _, _, h6⟩ := own_form hown
    injection e with e _ _
    have h7 := (h6 a (by rw [← e]; exact ha)).1
    have h8 := h1.acc.dm.dk.lt _ hm
    omega
  have hwr := h2.write nm (by unfold maxLen; omega) A K c M.v.whole.rec_ hKl (by omega) hrow hA
  have hld1 := Sd.write_load S nm.data.toList M.v.whole.rec_
  have HWR := Lib.hid hwr
  have HST : R = if (S.write nm.data.toList M.v.whole.rec_).2 ≠ 0 then ((S.write nm.data.toList M.v.whole.rec_).1, M, (S.write nm.data.toList M.v.whole.rec_).2) else Gw.tmp (S.write nm.data.toList M.v.whole.rec_).1 M nm.data.toList := HR.out
  clear hwr HR hput hA hown hrow hb1 hb2
  generalize S.write nm.data.toList M.v.whole.rec_ = PP at *
  obtain ⟨S1, e1⟩ := PP
  simp only at HST hld1
  have HS := Lib.hid HST
  clear HST
  go_wp2_with fail
  refine HWR.out.mono ?_
  rintro e w3 ⟨rfl, X3, h3⟩
  by_cases q1 : e1 = 0
  case neg =>
    have hne := neq0 q1
    have hh := HS.out
    rw [if_pos q1] at hh
    have hl := Lib.hid (GLeft.mk_ hh h3)
    clear hh
    go_wp2
    go_ret
    exact hl.out
  subst q1
  have HS2 : Hid (R = Gw.tmp S1 M nm.data.toList) := HS.out.trans (if_neg (by simp))
  have hrd := h3.read sTemp (by decide)
  rw [sTemp_list] at hrd
  unfold sTemp at hrd
  have HRD := Lib.hid hrd
  clear hrd HS HWR
  go_wp2_with fail
  refine HRD.out.mono ?_
  rintro e w4 ⟨A4, c4, rfl, hb4⟩
  have h4 := h3.below hb4
  clear HRD hb4
  generalize hE : (S1.read Mw.kTemp).2 = er2
  generalize (S1.read Mw.kTemp).1.length = ln2
  have HE := Lib.hid hE
  clear hE
  go_upto_if 53 with (fail)
  go_cut [] (fun wx => ∃ S2 X2, Gst P m X w S2 M wx X2 ∧ Hid (R = Gw.hd S2 M nm.data.toList) ∧ S2.load ≤ S.load + 3)
  case first =>
    by_cases q2 : er2 = 0
    · subst q2
      have hrm := h4.remove sTemp (by decide) (by omega)
      rw [sTemp_list] at hrm
      unfold sTemp at hrm
      have hl2 := Sd.remove_load S1 Mw.kTemp
      have HT : R = if (S1.remove Mw.kTemp).2 ≠ 0 then ((S1.remove Mw.kTemp).1, M, (S1.remove Mw.kTemp).2) else Gw.hd (S1.remove Mw.kTemp).1 M nm.data.toList := HS2.out.trans (if_pos HE.out)
      generalize S1.remove Mw.kTemp = PP at *
      obtain ⟨S2, e2⟩ := PP
      simp only at HT hl2
      have HRM := Lib.hid hrm
      have HT2 := Lib.hid HT
      clear hrm HT
      go_wp2_with fail
      refine HRM.out.mono ?_
      rintro e w5 ⟨rfl, X5, h5⟩
      by_cases q3 : e2 = 0
      · subst q3
        have HT3 : Hid (R = Gw.hd S2 M nm.data.toList) := HT2.out.trans (if_neg (by simp))
        go_wp2_with fail
        go_meet
        case rel => exact ⟨S2, X5, h5, HT3, by omega⟩
      · have hne := neq0 q3
        have hh := HT2.out
        rw [if_pos q3] at hh
        have hl := Lib.hid (GLeft.mk_ hh h5)
        clear hh
        go_wp2
        go_ret
        exact hl.out
    · have q3 : (((er2 : Int)) == 0) = false := by simp [q2]
      have HT3 : Hid (R = Gw.hd S1 M nm.data.toList) := HS2.out.trans (if_neg (by rw [HE.out]; exact q2))
      go_wp2_with fail
      go_meet
      case rel => exact ⟨S1, X3, h4, HT3, by omega⟩
  case rest =>
    obtain ⟨S2, X5, h5, HT3, hl3⟩ := hcut
    clear h4 HS2 HE h3 h2 h1 hld1
    have hnum := number_any nm sMan (by omega) (by decide) wc h5.acc.dm.env
    rw [sMan_list, numV_eq] at hnum
    obtain ⟨k, hk, hk2⟩ := number_range nm.data.toList
    rw [hk] at hnum
    have HK := Lib.hid hk
    unfold sMan at hnum
    have HN := Lib.hid hnum
    clear hnum hk
    go_wp2_with fail
    refine HN.out.mono ?_
    rintro e w6 ⟨rfl, hb6⟩
    have h6 := h5.below hb6
    have hp := put_any none 0 0 [] k (by omega) w6 (by omega) Row.nil_
    simp only [Nat.zero_add, List.nil_append] at hp
    clear HN h5 hb6
    go_wp2_with fail
    refine hp.mono ?_
    rintro e w7 ⟨A7, c7', rfl, hown7, hc7, hm7, hb7⟩
    have h7 := h6.below hb7
    have hpl := Pn.put_len k
    have hf := fput_any none 0 0 [] 8 A7 (Pn.put k).length c7' (Pn.put k) w7 (by omega) (by omega) (by unfold maxLen; omega) Row.nil_ (by omega) (by omega) (by omega) hc7 hm7 (Row.own hown7)
    rw [show ((8 : Nat) : Int) = 8 from rfl] at hf
    simp only [List.nil_append] at hf
    clear hp hown7
    go_wp2_with fail
    refine hf.mono ?_
    rintro e w8 ⟨A8, K8, c8, rfl, hown8, hK8, hm8, hb8⟩
    have h8 := h7.below hb8
    have hhead : Fr.put 8 (Pn.put k) = Mw.headB ((Mn.number nm.data.toList Mn.kMan).getD 0) := by
      rw [HK.out]
      rfl
    rw [hhead] at hown8
    have hrow8 := Row.own hown8
    have hKl : K8 ≤ 1099511627776 := by
      have e1 := hrow8.btlen
      have := headB_len ((Mn.number nm.data.toList Mn.kMan).getD 0)
      omega
    have hA : ∀ a, A8 = some a → a.block ∉ X5.foot := fun a ha hm => by
      obtain ⟨A', c', e, _, _, h6⟩ := own_form hown8
      injection e with e _ _
      have h9 := (h6 a (by rw [← e]; exact ha)).1
      have h10 := h7.acc.dm.dk.lt _ hm
      omega
    have hwr := h8.write sTemp (by decide) A8 K8 c8 _ hKl (by omega) hrow8 hA
    rw [sTemp_list] at hwr
    unfold sTemp at hwr
    have hl4 := Sd.write_load S2 Mw.kTemp (Mw.headB ((Mn.number nm.data.toList Mn.kMan).getD 0))
    have HT4 : R = if (S2.write Mw.kTemp (Mw.headB ((Mn.number nm.data.toList Mn.kMan).getD 0))).2 ≠ 0 then ((S2.write Mw.kTemp (Mw.headB ((Mn.number nm.data.toList Mn.kMan).getD 0))).1, M, (S2.write Mw.kTemp (Mw.headB ((Mn.number nm.data.toList Mn.kMan).getD 0))).2)
      else Gw.sd1 (S2.write Mw.kTemp (Mw.headB ((Mn.number nm.data.toList Mn.kMan).getD 0))).1 M nm.data.toList := HT3.out
    generalize S2.write Mw.kTemp (Mw.headB ((Mn.number nm.data.toList Mn.kMan).getD 0)) = PP at *
    obtain ⟨S3, e3⟩ := PP
    simp only at HT4 hl4
    have HWR := Lib.hid hwr
    have HS4 := Lib.hid HT4
    clear hwr HT4 hown8 hrow8 hA hhead hf hKl HT3 hb7 hb8 h7 h6
    go_wp2_with fail
    refine HWR.out.mono ?_
    rintro e w9 ⟨rfl, X9, h9⟩
    by_cases q3 : e3 = 0
    case neg =>
      have hne := neq0 q3
      have hh := HS4.out
      rw [if_pos q3] at hh
      have hl := Lib.hid (GLeft.mk_ hh h9)
      clear hh
      go_wp2
      go_ret
      exact hl.out
    subst q3
    have HS5 : Hid (R = Gw.sd1 S3 M nm.data.toList) := HS4.out.trans (if_neg (by simp))
    have hsd := h9.syncDir
    have hl5 := Sd.syncDir_load S3
    have HT5 : R = if (S3.syncDir).2 ≠ 0 then ((S3.syncDir).1, M, (S3.syncDir).2) else Gw.ren (S3.syncDir).1 M nm.data.toList := HS5.out
    generalize S3.syncDir = PP at *
    obtain ⟨S4, e4⟩ := PP
    simp only at HT5 hl5
    have HSD := Lib.hid hsd
    have HS6 := Lib.hid HT5
    clear hsd HT5 HS5 HS4 HWR h8
    go_wp2_with fail
    refine HSD.out.mono ?_
    rintro e w10 ⟨rfl, X10, h10⟩
    by_cases q4 : e4 = 0
    case neg =>
      have hne := neq0 q4
      have hh := HS6.out
      rw [if_pos q4] at hh
      have hl := Lib.hid (GLeft.mk_ hh h10)
      clear hh
      go_wp2
      go_ret
      exact hl.out
    subst q4
    have HS7 : Hid (R = Gw.ren S4 M nm.data.toList) := HS6.out.trans (if_neg (by simp))
    have hrn := h10.rename sTemp sCur (by decide) (by decide) (by omega)
    rw [sTemp_list, sCur_list] at hrn
    unfold sTemp sCur at hrn
    have hl6 := Sd.rename_load S4 Mw.kTemp Mw.kCur
    have HT6 : R = if (S4.rename Mw.kTemp Mw.kCur).2 ≠ 0 then ((S4.rename Mw.kTemp Mw.kCur).1, M, (S4.rename Mw.kTemp Mw.kCur).2) else Gw.fin (S4.rename Mw.kTemp Mw.kCur).1 M nm.data.toList := HS7.out
    generalize S4.rename Mw.kTemp Mw.kCur = PP at *
    obtain ⟨S5, e5⟩ := PP
    simp only at HT6 hl6
    have HRN := Lib.hid hrn
    have HS8 := Lib.hid HT6
    clear hrn HT6 HS7 HS6 HSD h9
    go_wp2_with fail
    refine HRN.out.mono ?_
    rintro e w11 ⟨rfl, X11, h11⟩
    by_cases q5 : e5 = 0
    case neg =>
      have hne := neq0 q5
      have hh := HS8.out
      rw [if_pos q5] at hh
      have hl := Lib.hid (GLeft.mk_ hh h11)
      clear hh
      go_wp2
      go_ret
      exact hl.out
    subst q5
    have HS9 : Hid (R = Gw.fin S5 M nm.data.toList) := HS8.out.trans (if_neg (by simp))
    have f1 := h11.man.free 1
    have f8 := h11.man.free 8
    have d1 := h11.man.cell 1
    have d8 := h11.man.cell 8
    simp only [Gs.cells, List.getElem?_cons_zero, List.getElem?_cons_succ] at d1 d8
    have hmk2 : GK ((w11.setCell ⟨m, 1, none⟩ (.string nm)).setCell ⟨m, 8, none⟩ (.int .i64 1)) m X.d { M with name := nm.data.toList, count := 1 } P := by
      have h12 := (h11.man.store 1 (.string nm)).store 8 (.int .i64 1)
      unfold GK Gs.cells
      simp only [str_list]
      exact h12
    have h12 := h11.turn (((Chg.refl [m] w11).setCell _ (.inl (by simp))).setCell _ (.inl (by simp))) hmk2 rfl
    have hsd2 := h12.syncDir
    have hl7 := Sd.syncDir_load S5
    have HT7 : R = if (S5.syncDir).2 ≠ 0 then ((S5.syncDir).1, { M with name := nm.data.toList, count := 1, broken := true }, (S5.syncDir).2)
      else (Mw.sweep nm.data.toList (S5.syncDir).1.list (S5.syncDir).1, { M with name := nm.data.toList, count := 1 }, 0) := HS9.out
    generalize S5.syncDir = PP at *
    obtain ⟨S6, e6⟩ := PP
    simp only at HT7 hl7
    have HSD2 := Lib.hid hsd2
    have HS10 := Lib.hid HT7
    clear hsd2 HT7 HS9 HS8 HRN h10 hmk2
    go_wp2_with fail
    refine HSD2.out.mono ?_
    rintro e w13 ⟨rfl, X13, h13⟩
    by_cases q6 : e6 = 0
    case neg =>
      have hne := neq0 q6
      have hh := HS10.out
      rw [if_pos q6] at hh
      have HH := Lib.hid hh
      clear hh d1 d8 f1 f8 h11 h12
      go_wp2_with fail
      refine h13.break_.mono ?_
      rintro e w14 ⟨rfl, h14⟩
      have hl := Lib.hid (GLeft.mk_ HH.out h14)
      go_wp2
      go_ret
      exact hl.out
    subst q6
    have HS11 : Hid (R = (Mw.sweep nm.data.toList S6.list S6, { M with name := nm.data.toList, count := 1 }, 0)) := HS10.out.trans (if_neg (by simp))
    have hli := h13.acc.list
    have hnml := list_named h13.acc.dm.wf
    have hlen := list_len h13.acc.dm.wf
    obtain ⟨L, hL⟩ : ∃ L, L = S6.list := ⟨_, rfl⟩
    rw [← hL] at hli hnml hlen HS11
    have HNM := Lib.hid hnml
    have HLI := Lib.hid hli
    clear hL hnml hli HS10 HSD2 d1 d8 f1 f8 h11 h12
    go_wp2_with fail
    refine HLI.out.mono ?_
    rintro e w14 ⟨A14, c14, rfl, hown14, hb14⟩
    have h14 := h13.below hb14
    have hcap : L.length ≤ c14 := by
      obtain ⟨A', c', e, h1, _⟩ := own_form hown14
      injection e with _ e2 e3
      omega
    have hA14 : ∀ a, A14 = some a → a.block ∉ [m] ++ X13.foot := fun a ha hm => by
      obtain ⟨A', c', e, _, _, h6⟩ := own_form hown14
      injection e with e _ _
      have h15 := (h6 a (by rw [← e]; exact ha)).1
      rcases List.mem_append.1 hm with h16 | h16
      · have := h13.man.lt
        rw [List.mem_singleton.1 h16] at h15
        omega
      · have := h13.acc.dm.dk.lt _ h16
        omega
    have hrow14 := Row.own hown14
    have h15 := h14.anew
    have HA := Lib.hid hA14
    clear hown14 hb14 HLI hA14 h13
    go_wp2
    go_loopw [104] (fun i wr => ∃ (j : Nat) (Sj : Sd) (Xj : Dw), j ≤ L.length ∧ i = .int .i64 (j : Int) ∧ Gst P m X13 w14 Sj { M with name := nm.data.toList, count := 1 } wr Xj ∧ Hid (Mw.sweep nm.data.toList L S6 = Mw.sweep nm.data.toList (L.drop j) Sj) ∧ Sj.load ≤ S6.load + j) (fun i _ => L.length - (intOf i).toNat)
    case atStart => exact ⟨0, S6, X13, Nat.zero_le _, rfl, h15, rfl, Nat.le_refl _⟩
    case round =>
      obtain ⟨j, Sj, Xj, hj, rfl, hMj, HSW, hlj⟩ := hrel
      by_cases hlt : j < L.length
      · have hrow := Row.chg_not hrow14 hMj.acc.c (Nat.le_refl _) HA.out
        obtain ⟨a, hl', rfl, _, hcl⟩ := hrow.enc hlt
        have hsn := HNM.out _ (List.getElem_mem hl')
        have hsl := named_len hsn
        have hdrop : L.drop j = L[j] :: L.drop (j + 1) := List.drop_eq_getElem_cons hl'
        have hst : Mw.sweep nm.data.toList L S6 = Mw.sweep nm.data.toList (L.drop (j + 1)) (if (Mn.number L[j] Mn.kMan).isSome && !(L[j] == nm.data.toList) then (Sj.remove L[j]).1 else Sj) := by
          rw [show Mw.sweep nm.data.toList L S6 = _ from HSW.out, hdrop]
          rfl
        have HST := Lib.hid hst
        have hnum := number_any (str L[j]) sMan (by rw [str_size]; omega) (by decide) wr hMj.acc.dm.env
        rw [list_str, sMan_list, numV_eq] at hnum
        unfold sMan at hnum
        have hrem := fun w2 (hb : Below wr.heap.size wr w2) => (hMj.below hb).remove (str L[j]) (by rw [str_size]; unfold maxLen; omega) (by omega)
        have hrl := Sd.remove_load Sj L[j]
        rw [list_str] at hrem
        have hxd := h15.acc.e
        have hxe := h14.acc.e
        rw [hxe] at hrem
        have HRM := Lib.hid hrem
        have HNU := Lib.hid hnum
        have hbq : ((str L[j]).toList == nm.toList) = (L[j] == nm.data.toList) := by
          rw [ByteArray.toList_eq, ByteArray.toList_eq, list_str]
        have HBQ := Lib.hid hbq
        clear hrem hnum hst hdrop hsn hrow hxd hxe hbq
        generalize L[j] = s at *
        go_wp2_with fail
        refine HNU.out.mono ?_
        rintro e w16 ⟨rfl, hb16⟩
        cases hns : Mn.number s Mn.kMan with
        | none =>
          rw [hns] at HST
          have h17 := hMj.below hb16
          clear hns HNU HRM hcl
          go_wp2
          go_roundw
          case rel => exact ⟨j + 1, Sj, Xj, by omega, by go_num, h17, HST, by omega⟩
          case measure => simp [intOf]; omega
        | some v =>
          rw [hns] at HST
          cases hq : (s == nm.data.toList) with
          | true =>
            have q1 : ((str s).toList == nm.toList) = true := by rw [HBQ.out, hq]
            rw [hq] at HST
            have h17 := hMj.below hb16
            clear hns HNU HRM hcl hq
            go_wp2
            go_roundw
            case rel => exact ⟨j + 1, Sj, Xj, by omega, by go_num, h17, HST, by omega⟩
            case measure => simp [intOf]; omega
          | false =>
            have q1 : ((str s).toList == nm.toList) = false := by rw [HBQ.out, hq]
            rw [hq] at HST
            have hrm := HRM.out w16 hb16
            have hst2 : Mw.sweep nm.data.toList L S6 = Mw.sweep nm.data.toList (L.drop (j + 1)) (Sj.remove s).1 := HST.out
            generalize Sj.remove s = PP at *
            have HST2 := Lib.hid hst2
            have HRM2 := Lib.hid hrm
            clear hns HNU HRM hcl hq hrm hst2 HST
            go_wp2_with fail
            refine HRM2.out.mono ?_
            rintro e w17 ⟨rfl, X17, h17⟩
            go_wp2
            go_roundw
            case rel => exact ⟨j + 1, PP.1, X17, by omega, by go_num, h17, HST2, by omega⟩
            case measure => simp [intOf]; omega
      · have e1 : L.drop j = [] := List.drop_eq_nil_of_le (by omega)
        have hR2 : R = (Sj, { M with name := nm.data.toList, count := 1 }, 0) := by
          have := HSW.out
          rw [e1] at this
          rw [show R = _ from HS11.out, this]
          rfl
        have hl := Lib.hid (GLeft.mk_ hR2 (h14.trans hMj))
        clear e1 hR2 hrow14
        go_wp2
        go_ret
        exact hl.out
end Go.Proofs.YthepokgkfaocmaaGreatDoor
