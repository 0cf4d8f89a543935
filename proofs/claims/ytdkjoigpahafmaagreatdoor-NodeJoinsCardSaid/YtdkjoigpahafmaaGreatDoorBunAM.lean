/- Texts ManI, ManE, ManF, ManG, ManJ, ManK, EditL, Views, RefV, RefA, Openers, FilesOpen, PlainRest, PlainRestB, PlainRestG, LawA, LawB, LawG, Edits, ManL in one. No conditions. -/
import Derived.Test.YtdkjoigpahafmaaGreatDoorBunAA
import Derived.Test.YtdkjoigpahafmaaGreatDoorBunAL
import Derived.StillTailTactics
import Derived.Deep.RegionHeld3
import Derived.Test.YtdkjoigpahafmaaGreatDoorBunAJ
import Derived.Test.YtdkjoigpahafmaaGreatDoorBunAD
import Derived.Test.YtdkjoigpahafmaaGreatDoorBunAF
import Derived.BigQuiet
import Derived.Deep.Slices
import Derived.Deep.Fields
import Derived.Lib.SmallJoins
import Derived.ChangeSame
import Derived.ChangeArms
import Derived.DataReads
import Derived.OpenShut

set_option linter.unusedSimpArgs false
set_option linter.unusedVariables false
set_option maxRecDepth 100000
set_option maxHeartbeats 16000000
namespace Go.Proofs.YtdkjoigpahafmaaGreatDoor
section
open Go Go.RowKit Go.Shelf
variable {P : Sl} {m : Nat} {X X1 : Dw} {w w1 w2 : World} {S S1 : Sd} {M M1 : Gs}
theorem grewrite_any (nm : ByteArray) (hnm : nm.size ≤ 1000) (hv : M.v.ok = true) (hld : S.load ≤ 1000000000000) (h0 : Gst P m X w S M w X) :
  Calls Tryz.prog 145 #[.pointer (some ⟨m, 0, none⟩), .string nm] w (GLeft P m X w (Gw.rewrite S M nm.data.toList)) := by
 have hmk := h0.man
 have c0 := hmk.cell 0
 have c2 := hmk.cell 2
 have c3 := hmk.cell 3
 have c4 := hmk.cell 4
 have c5 := hmk.cell 5
 have c6 := hmk.cell 6
 have c7 := hmk.cell 7
 simp only [Gs.cells, gE0, gE1] at c0 c2 c3 c4 c5 c6 c7
 obtain ⟨R, hR⟩ : ∃ R, R = Gw.rewrite S M nm.data.toList := ⟨_, rfl⟩
 rw [← hR]
 have hrl := Ed.rec_len (Vw.whole_may hv)
 have hput := fun A n c W hr => eput_gen none 0 0 [] M.v.whole none 0 0 A n c W (Vw.whole_may hv) Row.nil_ hr (by omega) (by omega) (by unfold maxLen; omega) Row.nil_
 have hwh := whole_gen M.v P.a P.n P.c w (by have := h0.row.nb; omega) h0.row.row
 have hRR : R = if (S.write nm.data.toList M.v.whole.rec_).2 ≠ 0 then ((S.write nm.data.toList M.v.whole.rec_).1, M, (S.write nm.data.toList M.v.whole.rec_).2) else Gw.tmp (S.write nm.data.toList M.v.whole.rec_).1 M nm.data.toList := hR
 have hrec : ([] : List UInt8) ++ M.v.whole.rec_ = M.v.whole.rec_ := rfl
 rw [hrec] at hput
 unfold Vw.val at hwh
 unfold Ed.val at hwh hput
 have HR := Lib.hid hRR
 have HP := Lib.hid hput
 clear hR hput hRR hrec
 go_enter Tryz.func145, Tryz.ntmps145
 go_wp2_with fail
 refine hwh.mono ?_
 rintro e w1 ⟨A1, n1c, rfl, hfr, hb1⟩
 have h1 := h0.below hb1
 have hput := HP.out A1 P.n n1c w1 hfr.row
 clear hwh hfr HP
 go_wp2_with fail
 refine hput.mono ?_
 rintro e w2 ⟨A, K, c, rfl, hown, hKc, hcm, hb2⟩
 have h2 := h1.below hb2
 have hrow := Row.own hown
 have hKl : K ≤ 1099511627776 := by
  have e1 := hrow.btlen
  omega
 have hA : ∀ a, A = some a → a.block ∉ X.foot := fun a ha hm => by
  obtain ⟨A', c', e, _, _, h6⟩ := own_form hown
  injection e with e _ _
  have h7 := (h6 a (by rw [← e]; exact ha)).1
  have h8 := h1.acc.dm.dk.lt _ hm
  omega
 have hwr := h2.write nm (by unfold maxLen; omega) A K c M.v.whole.rec_ hKl (by omega) hrow hA
 have hld1 := Sd.write_load S nm.data.toList M.v.whole.rec_
 have HWR := Lib.hid hwr
 have HST : R = if (S.write nm.data.toList M.v.whole.rec_).2 ≠ 0 then ((S.write nm.data.toList M.v.whole.rec_).1, M, (S.write nm.data.toList M.v.whole.rec_).2) else Gw.tmp (S.write nm.data.toList M.v.whole.rec_).1 M nm.data.toList := HR.out
 clear hwr HR hput hA hown hrow hb1 hb2
 generalize S.write nm.data.toList M.v.whole.rec_ = PP at *
 obtain ⟨S1, e1⟩ := PP
 simp only at HST hld1
 have HS := Lib.hid HST
 clear HST
 go_wp2_with fail
 refine HWR.out.mono ?_
 rintro e w3 ⟨rfl, X3, h3⟩
 by_cases q1 : e1 = 0
 case neg =>
  have hne := neq0 q1
  have hh := HS.out
  rw [if_pos q1] at hh
  have hl := Lib.hid (GLeft.mk_ hh h3)
  clear hh
  go_wp2
  go_ret
  exact hl.out
 subst q1
 have HS2 : Hid (R = Gw.tmp S1 M nm.data.toList) := HS.out.trans (if_neg (by simp))
 have hrd := h3.read sTemp (by decide)
 rw [sTemp_list] at hrd
 unfold sTemp at hrd
 have HRD := Lib.hid hrd
 clear hrd HS HWR
 go_wp2_with fail
 refine HRD.out.mono ?_
 rintro e w4 ⟨A4, c4, rfl, hb4⟩
 have h4 := h3.below hb4
 clear HRD hb4
 generalize hE : (S1.read Mw.kTemp).2 = er2
 generalize (S1.read Mw.kTemp).1.length = ln2
 have HE := Lib.hid hE
 clear hE
 go_upto_if 53 with (fail)
 go_cut [] (fun wx => ∃ S2 X2, Gst P m X w S2 M wx X2 ∧ Hid (R = Gw.hd S2 M nm.data.toList) ∧ S2.load ≤ S.load + 3)
 case first =>
  by_cases q2 : er2 = 0
  ·subst q2
   have hrm := h4.remove sTemp (by decide) (by omega)
   rw [sTemp_list] at hrm
   unfold sTemp at hrm
   have hl2 := Sd.remove_load S1 Mw.kTemp
   have HT : R = if (S1.remove Mw.kTemp).2 ≠ 0 then ((S1.remove Mw.kTemp).1, M, (S1.remove Mw.kTemp).2) else Gw.hd (S1.remove Mw.kTemp).1 M nm.data.toList := HS2.out.trans (if_pos HE.out)
   generalize S1.remove Mw.kTemp = PP at *
   obtain ⟨S2, e2⟩ := PP
   simp only at HT hl2
   have HRM := Lib.hid hrm
   have HT2 := Lib.hid HT
   clear hrm HT
   go_wp2_with fail
   refine HRM.out.mono ?_
   rintro e w5 ⟨rfl, X5, h5⟩
   by_cases q3 : e2 = 0
   ·subst q3
    have HT3 : Hid (R = Gw.hd S2 M nm.data.toList) := HT2.out.trans (if_neg (by simp))
    go_wp2_with fail
    go_meet
    case rel => exact ⟨S2, X5, h5, HT3, by omega⟩
   ·have hne := neq0 q3
    have hh := HT2.out
    rw [if_pos q3] at hh
    have hl := Lib.hid (GLeft.mk_ hh h5)
    clear hh
    go_wp2
    go_ret
    exact hl.out
  ·have q3 : (((er2 : Int)) == 0) = false := by simp [q2]
   have HT3 : Hid (R = Gw.hd S1 M nm.data.toList) := HS2.out.trans (if_neg (by rw [HE.out]; exact q2))
   go_wp2_with fail
   go_meet
   case rel => exact ⟨S1, X3, h4, HT3, by omega⟩
 case rest =>
  obtain ⟨S2, X5, h5, HT3, hl3⟩ := hcut
  clear h4 HS2 HE h3 h2 h1 hld1
  have hnum := number_any nm sMan (by omega) (by decide) wc h5.acc.dm.env
  rw [sMan_list, numV_eq] at hnum
  obtain ⟨k, hk, hk2⟩ := number_range nm.data.toList
  rw [hk] at hnum
  have HK := Lib.hid hk
  unfold sMan at hnum
  have HN := Lib.hid hnum
  clear hnum hk
  go_wp2_with fail
  refine HN.out.mono ?_
  rintro e w6 ⟨rfl, hb6⟩
  have h6 := h5.below hb6
  have hp := put_any none 0 0 [] k (by omega) w6 (by omega) Row.nil_
  simp only [Nat.zero_add, List.nil_append] at hp
  clear HN h5 hb6
  go_wp2_with fail
  refine hp.mono ?_
  rintro e w7 ⟨A7, c7', rfl, hown7, hc7, hm7, hb7⟩
  have h7 := h6.below hb7
  have hpl := Pn.put_len k
  have hf := fput_any none 0 0 [] 8 A7 (Pn.put k).length c7' (Pn.put k) w7 (by omega) (by omega) (by unfold maxLen; omega) Row.nil_ (by omega) (by omega) (by omega) hc7 hm7 (Row.own hown7)
  rw [show ((8 : Nat) : Int) = 8 from rfl] at hf
  simp only [List.nil_append] at hf
  clear hp hown7
  go_wp2_with fail
  refine hf.mono ?_
  rintro e w8 ⟨A8, K8, c8, rfl, hown8, hK8, hm8, hb8⟩
  have h8 := h7.below hb8
  have hhead : Fr.put 8 (Pn.put k) = Mw.headB ((Mn.number nm.data.toList Mn.kMan).getD 0) := by
   rw [HK.out]
   rfl
  rw [hhead] at hown8
  have hrow8 := Row.own hown8
  have hKl : K8 ≤ 1099511627776 := by
   have e1 := hrow8.btlen
   have := headB_len ((Mn.number nm.data.toList Mn.kMan).getD 0)
   omega
  have hA : ∀ a, A8 = some a → a.block ∉ X5.foot := fun a ha hm => by
   obtain ⟨A', c', e, _, _, h6⟩ := own_form hown8
   injection e with e _ _
   have h9 := (h6 a (by rw [← e]; exact ha)).1
   have h10 := h7.acc.dm.dk.lt _ hm
   omega
  have hwr := h8.write sTemp (by decide) A8 K8 c8 _ hKl (by omega) hrow8 hA
  rw [sTemp_list] at hwr
  unfold sTemp at hwr
  have hl4 := Sd.write_load S2 Mw.kTemp (Mw.headB ((Mn.number nm.data.toList Mn.kMan).getD 0))
  have HT4 : R = if (S2.write Mw.kTemp (Mw.headB ((Mn.number nm.data.toList Mn.kMan).getD 0))).2 ≠ 0 then ((S2.write Mw.kTemp (Mw.headB ((Mn.number nm.data.toList Mn.kMan).getD 0))).1, M, (S2.write Mw.kTemp (Mw.headB ((Mn.number nm.data.toList Mn.kMan).getD 0))).2)
   else Gw.sd1 (S2.write Mw.kTemp (Mw.headB ((Mn.number nm.data.toList Mn.kMan).getD 0))).1 M nm.data.toList := HT3.out
  generalize S2.write Mw.kTemp (Mw.headB ((Mn.number nm.data.toList Mn.kMan).getD 0)) = PP at *
  obtain ⟨S3, e3⟩ := PP
  simp only at HT4 hl4
  have HWR := Lib.hid hwr
  have HS4 := Lib.hid HT4
  clear hwr HT4 hown8 hrow8 hA hhead hf hKl HT3 hb7 hb8 h7 h6
  go_wp2_with fail
  refine HWR.out.mono ?_
  rintro e w9 ⟨rfl, X9, h9⟩
  by_cases q3 : e3 = 0
  case neg =>
   have hne := neq0 q3
   have hh := HS4.out
   rw [if_pos q3] at hh
   have hl := Lib.hid (GLeft.mk_ hh h9)
   clear hh
   go_wp2
   go_ret
   exact hl.out
  subst q3
  have HS5 : Hid (R = Gw.sd1 S3 M nm.data.toList) := HS4.out.trans (if_neg (by simp))
  have hsd := h9.syncDir
  have hl5 := Sd.syncDir_load S3
  have HT5 : R = if (S3.syncDir).2 ≠ 0 then ((S3.syncDir).1, M, (S3.syncDir).2) else Gw.ren (S3.syncDir).1 M nm.data.toList := HS5.out
  generalize S3.syncDir = PP at *
  obtain ⟨S4, e4⟩ := PP
  simp only at HT5 hl5
  have HSD := Lib.hid hsd
  have HS6 := Lib.hid HT5
  clear hsd HT5 HS5 HS4 HWR h8
  go_wp2_with fail
  refine HSD.out.mono ?_
  rintro e w10 ⟨rfl, X10, h10⟩
  by_cases q4 : e4 = 0
  case neg =>
   have hne := neq0 q4
   have hh := HS6.out
   rw [if_pos q4] at hh
   have hl := Lib.hid (GLeft.mk_ hh h10)
   clear hh
   go_wp2
   go_ret
   exact hl.out
  subst q4
  have HS7 : Hid (R = Gw.ren S4 M nm.data.toList) := HS6.out.trans (if_neg (by simp))
  have hrn := h10.rename sTemp sCur (by decide) (by decide) (by omega)
  rw [sTemp_list, sCur_list] at hrn
  unfold sTemp sCur at hrn
  have hl6 := Sd.rename_load S4 Mw.kTemp Mw.kCur
  have HT6 : R = if (S4.rename Mw.kTemp Mw.kCur).2 ≠ 0 then ((S4.rename Mw.kTemp Mw.kCur).1, M, (S4.rename Mw.kTemp Mw.kCur).2) else Gw.fin (S4.rename Mw.kTemp Mw.kCur).1 M nm.data.toList := HS7.out
  generalize S4.rename Mw.kTemp Mw.kCur = PP at *
  obtain ⟨S5, e5⟩ := PP
  simp only at HT6 hl6
  have HRN := Lib.hid hrn
  have HS8 := Lib.hid HT6
  clear hrn HT6 HS7 HS6 HSD h9
  go_wp2_with fail
  refine HRN.out.mono ?_
  rintro e w11 ⟨rfl, X11, h11⟩
  by_cases q5 : e5 = 0
  case neg =>
   have hne := neq0 q5
   have hh := HS8.out
   rw [if_pos q5] at hh
   have hl := Lib.hid (GLeft.mk_ hh h11)
   clear hh
   go_wp2
   go_ret
   exact hl.out
  subst q5
  have HS9 : Hid (R = Gw.fin S5 M nm.data.toList) := HS8.out.trans (if_neg (by simp))
  have f1 := h11.man.free 1
  have f8 := h11.man.free 8
  have d1 := h11.man.cell 1
  have d8 := h11.man.cell 8
  simp only [Gs.cells, gE0, gE1] at d1 d8
  have hmk2 : GK ((w11.setCell ⟨m, 1, none⟩ (.string nm)).setCell ⟨m, 8, none⟩ (.int .i64 1)) m X.d { M with name := nm.data.toList, count := 1 } P := by
   have h12 := (h11.man.store 1 (.string nm)).store 8 (.int .i64 1)
   unfold GK Gs.cells
   simp only [str_list]
   exact h12
  have h12 := h11.turn (((Chg.refl [m] w11).setCell _ (.inl (by simp))).setCell _ (.inl (by simp))) hmk2 rfl
  have hsd2 := h12.syncDir
  have hl7 := Sd.syncDir_load S5
  have HT7 : R = if (S5.syncDir).2 ≠ 0 then ((S5.syncDir).1, { M with name := nm.data.toList, count := 1, broken := true }, (S5.syncDir).2)
   else (Mw.sweep nm.data.toList (S5.syncDir).1.list (S5.syncDir).1, { M with name := nm.data.toList, count := 1 }, 0) := HS9.out
  generalize S5.syncDir = PP at *
  obtain ⟨S6, e6⟩ := PP
  simp only at HT7 hl7
  have HSD2 := Lib.hid hsd2
  have HS10 := Lib.hid HT7
  clear hsd2 HT7 HS9 HS8 HRN h10 hmk2
  go_wp2_with fail
  refine HSD2.out.mono ?_
  rintro e w13 ⟨rfl, X13, h13⟩
  by_cases q6 : e6 = 0
  case neg =>
   have hne := neq0 q6
   have hh := HS10.out
   rw [if_pos q6] at hh
   have HH := Lib.hid hh
   clear hh d1 d8 f1 f8 h11 h12
   go_wp2_with fail
   refine h13.break_.mono ?_
   rintro e w14 ⟨rfl, h14⟩
   have hl := Lib.hid (GLeft.mk_ HH.out h14)
   go_wp2
   go_ret
   exact hl.out
  subst q6
  have HS11 : Hid (R = (Mw.sweep nm.data.toList S6.list S6, { M with name := nm.data.toList, count := 1 }, 0)) := HS10.out.trans (if_neg (by simp))
  have hli := h13.acc.list
  have hnml := list_named h13.acc.dm.wf
  have hlen := list_len h13.acc.dm.wf
  obtain ⟨L, hL⟩ : ∃ L, L = S6.list := ⟨_, rfl⟩
  rw [← hL] at hli hnml hlen HS11
  have HNM := Lib.hid hnml
  have HLI := Lib.hid hli
  clear hL hnml hli HS10 HSD2 d1 d8 f1 f8 h11 h12
  go_wp2_with fail
  refine HLI.out.mono ?_
  rintro e w14 ⟨A14, c14, rfl, hown14, hb14⟩
  have h14 := h13.below hb14
  have hcap : L.length ≤ c14 := by
   obtain ⟨A', c', e, h1, _⟩ := own_form hown14
   injection e with _ e2 e3
   omega
  have hA14 : ∀ a, A14 = some a → a.block ∉ [m] ++ X13.foot := fun a ha hm => by
   obtain ⟨A', c', e, _, _, h6⟩ := own_form hown14
   injection e with e _ _
   have h15 := (h6 a (by rw [← e]; exact ha)).1
   rcases List.mem_append.1 hm with h16 | h16
   ·have := h13.man.lt
    rw [List.mem_singleton.1 h16] at h15
    omega
   ·have := h13.acc.dm.dk.lt _ h16
    omega
  have hrow14 := Row.own hown14
  have h15 := h14.anew
  have HA := Lib.hid hA14
  clear hown14 hb14 HLI hA14 h13
  go_wp2
  go_loopw [104] (fun i wr => ∃ (j : Nat) (Sj : Sd) (Xj : Dw), j ≤ L.length ∧ i = .int .i64 (j : Int) ∧ Gst P m X13 w14 Sj { M with name := nm.data.toList, count := 1 } wr Xj ∧ Hid (Mw.sweep nm.data.toList L S6 = Mw.sweep nm.data.toList (L.drop j) Sj) ∧ Sj.load ≤ S6.load + j) (fun i _ => L.length - (intOf i).toNat)
  case atStart => exact ⟨0, S6, X13, Nat.zero_le _, rfl, h15, rfl, Nat.le_refl _⟩
  case round =>
   obtain ⟨j, Sj, Xj, hj, rfl, hMj, HSW, hlj⟩ := hrel
   by_cases hlt : j < L.length
   ·have hrow := Row.chg_not hrow14 hMj.acc.c (Nat.le_refl _) HA.out
    obtain ⟨a, hl', rfl, _, hcl⟩ := hrow.enc hlt
    have hsn := HNM.out _ (List.getElem_mem hl')
    have hsl := named_len hsn
    have hdrop : L.drop j = L[j] :: L.drop (j + 1) := List.drop_eq_getElem_cons hl'
    have hst : Mw.sweep nm.data.toList L S6 = Mw.sweep nm.data.toList (L.drop (j + 1)) (if (Mn.number L[j] Mn.kMan).isSome && !(L[j] == nm.data.toList) then (Sj.remove L[j]).1 else Sj) := by
     rw [show Mw.sweep nm.data.toList L S6 = _ from HSW.out, hdrop]
     rfl
    have HST := Lib.hid hst
    have hnum := number_any (str L[j]) sMan (by rw [str_size]; omega) (by decide) wr hMj.acc.dm.env
    rw [list_str, sMan_list, numV_eq] at hnum
    unfold sMan at hnum
    have hrem := fun w2 (hb : Below wr.heap.size wr w2) => (hMj.below hb).remove (str L[j]) (by rw [str_size]; unfold maxLen; omega) (by omega)
    have hrl := Sd.remove_load Sj L[j]
    rw [list_str] at hrem
    have hxd := h15.acc.e
    have hxe := h14.acc.e
    rw [hxe] at hrem
    have HRM := Lib.hid hrem
    have HNU := Lib.hid hnum
    have hbq : ((str L[j]).toList == nm.toList) = (L[j] == nm.data.toList) := by
     rw [ByteArray.toList_eq, ByteArray.toList_eq, list_str]
    have HBQ := Lib.hid hbq
    clear hrem hnum hst hdrop hsn hrow hxd hxe hbq
    generalize L[j] = s at *
    go_wp2_with fail
    refine HNU.out.mono ?_
    rintro e w16 ⟨rfl, hb16⟩
    cases hns : Mn.number s Mn.kMan with
    | none =>
     rw [hns] at HST
     have h17 := hMj.below hb16
     clear hns HNU HRM hcl
     go_wp2
     go_roundw
     case rel => exact ⟨j + 1, Sj, Xj, by omega, by go_num, h17, HST, by omega⟩
     case measure => simp [intOf]; omega
    | some v =>
     rw [hns] at HST
     cases hq : (s == nm.data.toList) with
     | true =>
      have q1 : ((str s).toList == nm.toList) = true := by rw [HBQ.out, hq]
      rw [hq] at HST
      have h17 := hMj.below hb16
      clear hns HNU HRM hcl hq
      go_wp2
      go_roundw
      case rel => exact ⟨j + 1, Sj, Xj, by omega, by go_num, h17, HST, by omega⟩
      case measure => simp [intOf]; omega
     | false =>
      have q1 : ((str s).toList == nm.toList) = false := by rw [HBQ.out, hq]
      rw [hq] at HST
      have hrm := HRM.out w16 hb16
      have hst2 : Mw.sweep nm.data.toList L S6 = Mw.sweep nm.data.toList (L.drop (j + 1)) (Sj.remove s).1 := HST.out
      generalize Sj.remove s = PP at *
      have HST2 := Lib.hid hst2
      have HRM2 := Lib.hid hrm
      clear hns HNU HRM hcl hq hrm hst2 HST
      go_wp2_with fail
      refine HRM2.out.mono ?_
      rintro e w17 ⟨rfl, X17, h17⟩
      go_wp2
      go_roundw
      case rel => exact ⟨j + 1, PP.1, X17, by omega, by go_num, h17, HST2, by omega⟩
      case measure => simp [intOf]; omega
   ·have e1 : L.drop j = [] := List.drop_eq_nil_of_le (by omega)
    have hR2 : R = (Sj, { M with name := nm.data.toList, count := 1 }, 0) := by
     have := HSW.out
     rw [e1] at this
     rw [show R = _ from HS11.out, this]
     rfl
    have hl := Lib.hid (GLeft.mk_ hR2 (h14.trans hMj))
    clear e1 hR2 hrow14
    go_wp2
    go_ret
    exact hl.out
end
section
open Go Go.RowKit Go.Shelf
variable {m : Nat} {X X1 : Dw} {w w1 w2 : World} {S S1 : Sd} {M M1 : Ms}
end
section
open Go Go.RowKit Go.Shelf
variable {m : Nat} {X X1 : Dw} {w w1 w2 : World} {S S1 : Sd} {M M1 : Ms}
end
section
open Go Go.RowKit Go.Shelf
variable {m : Nat} {X X1 : Dw} {w w1 w2 : World} {S S1 : Sd} {M M1 : Ms}
theorem name_le (n : Int) : (Mn.name Mn.kMan n).length ≤ 1000 := by
 by_cases hne : Mn.name Mn.kMan n = []
 ·rw [hne]; simp
 ·have := Mn.name_len hne
  omega
structure Born (X : Dw) (w : World) (S : Sd) (M : Ms) (m : Nat) (w' : World) (X' : Dw) : Prop where
 e : X'.d = X.d
 dm : Dm w' X' S
 man : MK w' m X.d M
 away : m ∉ X'.foot
 c : Chg X.foot w w'
 f : ∀ g ∈ X'.foot, g ∈ X.foot ∨ w.heap.size ≤ g
 new : w.heap.size ≤ m
end
section
open Go Go.RowKit Go.Shelf
variable {P : Sl} {m : Nat} {X X1 : Dw} {w w1 w2 : World} {S S1 : Sd} {M M1 : Gs}
theorem gmview_any (xd : Nat) (h : GK w m xd M P) (hr : Row w.heap.size w P.a P.n 2 (fcells M.v.files)) (hn : P.n ≤ 10000) : Calls Tryz.prog 65 #[.pointer (some ⟨m, 0, none⟩)] w fun e w' => ∃ A c, e = .returned (M.v.val A P.n c) ∧ Fresh w.heap.size w' A P.n c M.v.files ∧ Below w.heap.size w w' := by
 have hlt := h.lt
 have h1 : GK (w.alloc (.cells #[.int .i64 0, .slice none 0 0, .int .u64 0, .int .u64 0, .int .u64 0, .int .u64 0] 134)) m xd M P := BoxO.alloc h _
 have hr1 := (hr.alloc (Nat.le_refl _) (.cells #[.int .i64 0, .slice none 0 0, .int .u64 0, .int .u64 0, .int .u64 0, .int .u64 0] 134)).up (B' := (w.alloc (.cells #[.int .i64 0, .slice none 0 0, .int .u64 0, .int .u64 0, .int .u64 0, .int .u64 0] 134)).heap.size) (by simp)
 have c2 := h1.cell 2
 have c3 := h1.cell 3
 have c4 := h1.cell 4
 have c5 := h1.cell 5
 have c6 := h1.cell 6
 have c7 := h1.cell 7
 have hbx := BoxO.new w #[.int .i64 0, .slice none 0 0, .int .u64 0, .int .u64 0, .int .u64 0, .int .u64 0] 134
 simp only [Gs.cells, gE0, gE1] at c2 c3 c4 c5 c6 c7
 have how := own_gen M.v P.a P.n P.c _ (by omega) hr1
 have hb0 : Below w.heap.size w (w.alloc (.cells #[.int .i64 0, .slice none 0 0, .int .u64 0, .int .u64 0, .int .u64 0, .int .u64 0] 134)) := (Below.refl _ _).alloc (Nat.le_refl _) _
 unfold Vw.val at *
 generalize hV : w.alloc (.cells #[.int .i64 0, .slice none 0 0, .int .u64 0, .int .u64 0, .int .u64 0, .int .u64 0] 134) = V at *
 go_enter Tryz.func65, Tryz.ntmps65
 go_wp2_with fail
 refine how.mono ?_
 rintro e w1 ⟨A1, c1, rfl, hfr, hb1⟩
 have hb2 := later_ hb0 hb1
 have hbx1 := hbx.below hb1
 have hlt1 := hbx1.lt
 have hfr1 := hfr.base hb0.size
 have f0 := hbx1.free 0
 have f1 := hbx1.free 1
 have f2 := hbx1.free 2
 have f3 := hbx1.free 3
 have f4 := hbx1.free 4
 have f5 := hbx1.free 5
 have g0 := hbx1.cell 0
 have g1 := hbx1.cell 1
 have g2 := hbx1.cell 2
 have g3 := hbx1.cell 3
 have g4 := hbx1.cell 4
 have g5 := hbx1.cell 5
 simp only [gE0, gE1] at g0 g1 g2 g3 g4 g5
 have hst := (((((hb2.setCell (p := ⟨w.heap.size, 0, none⟩) (Nat.le_refl _) (.int .i64 M.v.log)).setCell (p := ⟨w.heap.size, 1, none⟩) (Nat.le_refl _) (.slice A1 P.n c1)).setCell (p := ⟨w.heap.size, 2, none⟩) (Nat.le_refl _) (.int .u64 (M.v.floor : Int))).setCell (p := ⟨w.heap.size, 3, none⟩) (Nat.le_refl _) (.int .u64 (M.v.cert : Int))).setCell (p := ⟨w.heap.size, 4, none⟩) (Nat.le_refl _) (.int .u64 (M.v.at_ : Int))).setCell (p := ⟨w.heap.size, 5, none⟩) (Nat.le_refl _) (.int .u64 (M.v.lease : Int))
 have hcg : Chg [w.heap.size] w1 ((((((w1.setCell ⟨w.heap.size, 0, none⟩ (.int .i64 M.v.log)).setCell ⟨w.heap.size, 1, none⟩ (.slice A1 P.n c1)).setCell ⟨w.heap.size, 2, none⟩ (.int .u64 (M.v.floor : Int))).setCell ⟨w.heap.size, 3, none⟩ (.int .u64 (M.v.cert : Int))).setCell ⟨w.heap.size, 4, none⟩ (.int .u64 (M.v.at_ : Int))).setCell ⟨w.heap.size, 5, none⟩ (.int .u64 (M.v.lease : Int))) :=
  ((((((Chg.refl [w.heap.size] w1).setCell _ (.inl (by simp))).setCell _ (.inl (by simp))).setCell _ (.inl (by simp))).setCell _ (.inl (by simp))).setCell _ (.inl (by simp))).setCell _ (.inl (by simp))
 have hVs : V.heap.size = w.heap.size + 1 := by rw [← hV]; simp
 have hfr2 := hfr1.chg hcg (fun a ha hm => by have := hfr.low a ha; simp at hm; omega)
 have HS := Lib.hid hst
 have HF := Lib.hid hfr2
 clear hst hbx1 hbx hb1 hb2 hb0 how h1 c2 c3 c4 c5 c6 c7 hcg hfr hfr1 hfr2 hr1 hr hV hVs
 go_wp2
 exact bodyPost_ret (v := .agg #[.int .i64 M.v.log, .slice A1 P.n c1, .int .u64 (M.v.floor : Int), .int .u64 (M.v.cert : Int), .int .u64 (M.v.at_ : Int), .int .u64 (M.v.lease : Int)]) (by simp [results, Tryz.results65, go_sem, g0, g1, g2, g3, g4, g5]) rfl ⟨A1, c1, rfl, HF.out, HS.out⟩
end
section
open Go Go.RowKit Go.Shelf
variable {P : Sl} {m : Nat} {X X1 : Dw} {w w1 w2 : World} {S S1 : Sd} {M M1 : Gs}
structure GBorn (P : Sl) (X : Dw) (w : World) (S : Sd) (M : Gs) (m : Nat) (w' : World) (X' : Dw) : Prop where
 e : X'.d = X.d
 dm : Dm w' X' S
 man : GK w' m X.d M P
 row : Vrow w' X' m P M.v.files
 away : m ∉ X'.foot
 c : Chg X.foot w w'
 f : ∀ g ∈ X'.foot, g ∈ X.foot ∨ w.heap.size ≤ g
 new : w.heap.size ≤ m
theorem gborn_of (hb : Below w.heap.size w w1) (hm : w.heap.size ≤ m) (k : Gst P m X w1 S1 M1 w2 X1) : GBorn P X w S1 M1 m w2 X1 :=
 ⟨k.acc.e, k.acc.dm, k.man, k.row, k.away, ((Chg.of_below hb X.foot).trans k.acc.c (fun g hg => by
  rcases List.mem_append.1 hg with h1 | h1
  ·rw [List.mem_singleton.1 h1]; exact .inr hm
  ·exact .inl h1)), fun g hg => by
  rcases k.acc.f g hg with h1 | h1
  ·exact .inl h1
  ·exact .inr (Nat.le_trans hb.size h1), hm⟩
theorem gnew_any (v : Vw) (A : Option Addr) (n c : Nat) (hv : v.ok = true) (hn : n ≤ 10000) (hnc : n ≤ c) (hcm : c ≤ maxLen) (hr : Row w.heap.size w A n 2 (fcells v.files)) (hld : S.load ≤ 1000000000000) (h : Dm w X S) (R : Sd × Gs × Nat) (hR : R = Gw.rewrite S ⟨[], v, 0, false⟩ (Mn.name Mn.kMan 1)) (hR0 : R.2.2 = 0) :
  Calls Tryz.prog 129 #[.pointer (some ⟨X.d, 0, none⟩), v.val A n c] w fun e w' => ∃ P m X', e = .returned (.tuple #[.pointer (some ⟨m, 0, none⟩), .int .i64 0]) ∧ GBorn P X w R.1 R.2.1 m w' X' := by
 have HR := Lib.hid hR
 have HR0 := Lib.hid hR0
 clear hR hR0
 have hb0 : Below w.heap.size w (w.alloc (.cells #[.int .i64 v.log, .slice A n c, .int .u64 (v.floor : Int), .int .u64 (v.cert : Int), .int .u64 (v.at_ : Int), .int .u64 (v.lease : Int)] 134)) := (Below.refl _ _).alloc (Nat.le_refl _) _
 have hbx := BoxO.new w #[.int .i64 v.log, .slice A n c, .int .u64 (v.floor : Int), .int .u64 (v.cert : Int), .int .u64 (v.at_ : Int), .int .u64 (v.lease : Int)] 134
 generalize hV : w.alloc (.cells #[.int .i64 v.log, .slice A n c, .int .u64 (v.floor : Int), .int .u64 (v.cert : Int), .int .u64 (v.at_ : Int), .int .u64 (v.lease : Int)] 134) = V at *
 have hr1 := (hr.below hb0).up hb0.size
 have hok := ok_gen v A n c V (by omega) hnc hcm hr1
 rw [hv] at hok
 have how := fun W hW => own_gen v A n c W (by omega) hW
 have x0 := hbx.cell 0
 have x1 := hbx.cell 1
 have x2 := hbx.cell 2
 have x3 := hbx.cell 3
 have x4 := hbx.cell 4
 have x5 := hbx.cell 5
 simp only [gE0, gE1] at x0 x1 x2 x3 x4 x5
 unfold Vw.val at hok how ⊢
 have HOW := Lib.hid how
 clear how
 go_enter Tryz.func129, Tryz.ntmps129
 go_wp2_with fail
 refine hok.mono ?_
 rintro e w1 ⟨rfl, hb1⟩
 have hbx1 := hbx.below hb1
 have x0 := hbx1.cell 0
 have x1 := hbx1.cell 1
 have x2 := hbx1.cell 2
 have x3 := hbx1.cell 3
 have x4 := hbx1.cell 4
 have x5 := hbx1.cell 5
 simp only [gE0, gE1] at x0 x1 x2 x3 x4 x5
 have hb01 := later_ hb0 hb1
 have how := HOW.out w1 ((hr1.below hb1).up hb1.size)
 clear hok hb1 hbx hb0 HOW hr1 hr
 go_wp2_with fail
 refine how.mono ?_
 rintro e w2 ⟨A2, c2, rfl, hfr, hb2⟩
 have hb02 := later_ hb01 hb2
 have hb3 := hb02.alloc hb02.size (.cells #[.pointer (some ⟨X.d, 0, none⟩), .string ⟨#[]⟩, .int .i64 v.log, .slice A2 n c2, .int .u64 (v.floor : Int), .int .u64 (v.cert : Int), .int .u64 (v.at_ : Int), .int .u64 (v.lease : Int), .int .i64 0, .int .u32 0, .int .i32 0, .int .u32 0, .bool false] 209)
 have hmk : GK (w2.alloc (.cells #[.pointer (some ⟨X.d, 0, none⟩), .string ⟨#[]⟩, .int .i64 v.log, .slice A2 n c2, .int .u64 (v.floor : Int), .int .u64 (v.cert : Int), .int .u64 (v.at_ : Int), .int .u64 (v.lease : Int), .int .i64 0, .int .u32 0, .int .i32 0, .int .u32 0, .bool false] 209)) w2.heap.size X.d ⟨[], v, 0, false⟩ ⟨A2, n, c2⟩ := BoxO.new w2 #[.pointer (some ⟨X.d, 0, none⟩), .string ⟨#[]⟩, .int .i64 v.log, .slice A2 n c2, .int .u64 (v.floor : Int), .int .u64 (v.cert : Int), .int .u64 (v.at_ : Int), .int .u64 (v.lease : Int), .int .i64 0, .int .u32 0, .int .i32 0, .int .u32 0, .bool false] 209
 have hm1 := hb02.size
 have h3 := h.below hb3
 have hvr : Vrow (w2.alloc (.cells #[.pointer (some ⟨X.d, 0, none⟩), .string ⟨#[]⟩, .int .i64 v.log, .slice A2 n c2, .int .u64 (v.floor : Int), .int .u64 (v.cert : Int), .int .u64 (v.at_ : Int), .int .u64 (v.lease : Int), .int .i64 0, .int .u32 0, .int .i32 0, .int .u32 0, .bool false] 209)) X w2.heap.size ⟨A2, n, c2⟩ v.files := by
  refine ⟨(hfr.row.alloc (Nat.le_refl _) _).up (by simp), hfr.nc, hfr.cm, hn, fun j hj a ha => ⟨?_, fun hm => ?_⟩⟩
  ·obtain ⟨a', e, hb, _⟩ := hfr.row.cell j hj
   simp only at ha
   rw [ha] at e
   injection e with e
   subst e
   omega
  ·have h4 := hfr.low a ha
   have h5 := h.dk.lt _ hm
   have := hb01.size
   omega
 generalize hV3 : w2.alloc (.cells #[.pointer (some ⟨X.d, 0, none⟩), .string ⟨#[]⟩, .int .i64 v.log, .slice A2 n c2, .int .u64 (v.floor : Int), .int .u64 (v.cert : Int), .int .u64 (v.at_ : Int), .int .u64 (v.lease : Int), .int .i64 0, .int .u32 0, .int .i32 0, .int .u32 0, .bool false] 209) = V3 at *
 have hnm := name_any sMan (by decide) 1 (by omega) V3 h3.env
 rw [sMan_list] at hnm
 unfold sMan at hnm
 have hst : Gst ⟨A2, n, c2⟩ w2.heap.size X V3 S ⟨[], v, 0, false⟩ V3 X := Gst.start h3 hmk hvr (fun hm => by have := h.dk.lt _ hm; omega) (Nat.le_trans h.env.base hm1)
 clear how hb2 hb02 hb01 hmk hbx1 x0 x1 x2 x3 x4 x5 hvr hfr
 go_wp2_with fail
 clear hV3
 generalize w2.heap.size = m at *
 refine hnm.mono ?_
 rintro e w4 ⟨rfl, hb4⟩
 have h4 := hst.below hb4
 have hnl := name_le 1
 have hrw := grewrite_any (str (Mn.name Mn.kMan 1)) (by rw [str_size]; exact hnl) hv hld h4.anew
 rw [list_str, ← show R = _ from HR.out] at hrw
 have HRW := Lib.hid hrw
 clear hrw hnm hb4
 go_wp2_with fail
 refine HRW.out.mono ?_
 rintro e w5 ⟨rfl, P5, X5, h5, _⟩
 rw [show R.2.2 = _ from HR0.out]
 have HB := Lib.hid (gborn_of hb3 hm1 (h4.trans h5))
 clear h5 h4 hst h3 HRW
 go_wp2
 go_ret2
 exact ⟨_, _, _, rfl, HB.out⟩
end
section
open Go Go.RowKit
structure Rst (w : World) (rb : Nat) (D : Option Addr) (m : Nat) (ds : List Int) (W : World) (ec : List Value) (A : Option Addr) (N c : Nat) (l : List UInt8) (ok : Bool) : Prop where
 e : BoxO W 163 (w.heap.size + 1) ec
 res : BoxO W 163 w.heap.size [.slice none 0 0, .slice none 0 0, .int .i64 0, .int .u64 0, .int .u64 0, .int .u64 0, .int .u64 0]
 rd : BoxO W 311 rb [.slice A N c, .bool ok]
 row : Row w.heap.size W A N 1 (bts l)
 nc : N ≤ c
 nb : N ≤ 100000000
 dr : Row rb W D m 1 (icells ds)
 dl : ∀ a, D = some a → w.heap.size + 1 + 1 ≤ a.block
 bel : Below w.heap.size w W
 hi : w.heap.size + 1 + 1 ≤ rb
section
variable {w W W' : World} {rb m N c : Nat} {D A : Option Addr} {ds : List Int} {ec : List Value} {l : List UInt8} {ok : Bool}
theorem Rst.lt (h : Rst w rb D m ds W ec A N c l ok) : rb < W.heap.size := h.rd.lt
theorem Rst.drew (h : Rst w rb D m ds W ec A N c l ok) : Rst w rb D m ds W.drew ec A N c l ok := ⟨h.e.drew, h.res.drew, h.rd.drew, h.row.drew, h.nc, h.nb, h.dr.drew, h.dl, below_drew h.bel, h.hi⟩
theorem Rst.later (h : Rst w rb D m ds W ec A N c l ok) (hb : Below (rb + 1) W W') : Rst w rb D m ds W' ec A N c l ok :=
 have h1 := h.hi
 ⟨(hb.block _ (by omega)).trans h.e, (hb.block _ (by omega)).trans h.res, (hb.block _ (by omega)).trans h.rd, h.row.below (hb.mono (by omega)), h.nc, h.nb, h.dr.below (hb.mono (by omega)), h.dl, h.bel.trans (hb.mono (by omega)), h.hi⟩
theorem Rst.below (h : Rst w rb D m ds W ec A N c l ok) (hb : Below W.heap.size W W') : Rst w rb D m ds W' ec A N c l ok := h.later (hb.mono h.lt)
theorem Rst.store (h : Rst w rb D m ds W ec A N c l ok) (j : Nat) (v : Value) : Rst w rb D m ds (W.setCell ⟨w.heap.size + 1, j, none⟩ v) (ec.set j v) A N c l ok :=
 have h1 := h.hi
 have hc := chg_set W ⟨w.heap.size + 1, j, none⟩ v
 have hlt := h.lt
 ⟨h.e.store j v, h.res.chg hc (by simp), h.rd.chg hc (by simp; omega), h.row.setCell (by simp) v, h.nc, h.nb, hc.row h.dr (Nat.le_of_lt hlt) (fun a ha hm => by have := h.dl a ha; simp at hm; omega), h.dl, h.bel.setCell (by simp) v, h.hi⟩
theorem Rst.take (h : Rst w rb D m ds W ec A N c l ok) (most : Nat) (hm : most < 18446744073709551616) :
  Calls Tryz.prog 235 #[.pointer (some ⟨rb, 0, none⟩), .int .u64 (most : Int)] W fun x W' => ∃ A' N' c', x = .returned (.int .u64 ((Rd.take most (l, ok)).1 : Int)) ∧ Rst w rb D m ds W' ec A' N' c' (Rd.take most (l, ok)).2.1 (Rd.take most (l, ok)).2.2 ∧ Chg [rb] W W' := by
 have h1 := h.hi
 have h2 := h.nb
 refine (rtake_gen w.heap.size rb (by omega) A N c l ok most W (by omega) h.nc hm h.rd h.row).mono ?_
 rintro x W' ⟨A', N', c', rfl, hn1, hn2, hr, hb, hc⟩
 exact ⟨A', N', c', rfl, ⟨h.e.chg hc (by simp; omega), h.res.chg hc (by simp; omega), hb, hr, hn1, by omega, h.dr.keep (fun p hp => hc.cell (by have := h.lt; omega) (by simp; omega)), h.dl, h.bel.trans (hc.below h.bel.size (by intro q hq; simp at hq; omega)), h.hi⟩, hc⟩
end
end
section
open Go Go.RowKit
namespace Fr
end Fr
end
section
open Go Go.RowKit
end
section
open Go Go.RowKit
structure Ra (w : World) (ec : List Value) (cs : List Value) (A : Option Addr) (n c : Nat) (fs : List (Int × Int)) (W : World) : Prop where
 e : BoxO W 163 (w.heap.size + 1) ec
 r : BoxO W 134 (w.heap.size + 1 + 1) [.int .i64 0, .slice none 0 0, .int .u64 0, .int .u64 0, .int .u64 0, .int .u64 0]
 o : BoxO W 134 (w.heap.size + 1 + 1 + 1) cs
 row : W.ownsRow (w.heap.size + 1 + 1 + 1 + 1) 166 2 (.slice A n c) n (fcells fs)
 bel : Below w.heap.size w W
variable {w W W' : World} {ec cs : List Value} {A : Option Addr} {n c : Nat} {fs : List (Int × Int)}
theorem Ra.lt (h : Ra w ec cs A n c fs W) : w.heap.size + 1 + 1 + 1 < W.heap.size := h.o.lt
theorem Ra.below (h : Ra w ec cs A n c fs W) (hb : Below W.heap.size W W') : Ra w ec cs A n c fs W' := ⟨h.e.below hb, h.r.below hb, h.o.below hb, own_below h.row hb, later_ h.bel hb⟩
theorem Ra.store (h : Ra w ec cs A n c fs W) (j : Nat) (u : Value) : Ra w ec (cs.set j u) A n c fs (W.setCell ⟨w.heap.size + 1 + 1 + 1, j, none⟩ u) :=
 have hc := chg_set W ⟨w.heap.size + 1 + 1 + 1, j, none⟩ u
 ⟨h.e.chg hc (by simp), h.r.chg hc (by simp), h.o.store j u, own_chg h.row hc (fun g hg hm => by have := (h.row.lt g hg).1; simp at hm; omega), h.bel.setCell (by simp; omega) u⟩
end
section
open Go Go.RowKit
end
section
open Go Go.RowKit Go.ChangeShapes Go.WideShapes Go.Deep Go.Joins
section
variable {H : Type} {enc : TypeId × Value → H} {P : Program} {w : World} {base : Nat} {spare : Nat → Bool} {held : Bool}
theorem open_slice_fields {t e : TypeId} {fs : Array Field} {fuel : Nat} {cs : List Value} {x : DataW H × List MemPlace} (ht : P.underlying t = some (.slice e)) (he : P.underlying e = some (.struct fs))
  (hone : oneCellFields P fs = true) (hC : P.cellsOf e = fs.size) (h : DataW.trod enc P w base spare held fuel t cs = some x) :
  cs = [.slice none 0 0] ∨
  ∃ (a : Addr) (len cap m : Nat), cs = [.slice (some a) len cap] ∧ len ≤ cap ∧ cap ≤ maxLen ∧ m = (if spare a.block then cap else len) ∧
   ∀ i, i < m → ∃ (ys : List (DataW H × List MemPlace)) (n : Nat),
    ∀ (j : Nat) (f : Field), fs[j]? = some f → ∃ (v : Value) (y : DataW H × List MemPlace), w.cell? (a.add (i * fs.size + j)) = some v ∧ ys[j]? = some y ∧ DataW.trod enc P w base spare held n f.type [v] = some y := by
 rcases open_slice ht h with ⟨h0, _⟩ | ⟨a, len, cap, m, n, D, Pl, hcs, hb, hl, hm, hmm, hx, hi⟩
 ·exact .inl h0
 ·refine .inr ⟨a, len, cap, m, hcs, hl, hm, hmm, fun i him => ?_⟩
  obtain ⟨cs', hc, ht'⟩ := hi i him
  rw [hC] at hc
  obtain ⟨ys, n', hn', hy, hlen, hyl, hf⟩ := DataW.trod_struct he ht'
  obtain ⟨_, hcl, hat⟩ := World.cells?_some hc
  refine ⟨ys, n', fun j f hj => ?_⟩
  obtain ⟨ho, hk⟩ := hone_of hone j f hj
  have hjl : j < fs.size := (Array.getElem?_eq_some_iff.1 hj).1
  have hcell := hat j hjl
  have hv : cs'[j]? = some (cs'[j]'(by omega)) := List.getElem?_eq_getElem (by omega)
  have h1 := hf j f hj
  rw [ho, hk] at h1
  have hone' : (cs'.drop j).take 1 = [cs'[j]'(by omega)] := by
   rw [List.drop_eq_getElem_cons (by omega)]
   rfl
  rw [hone'] at h1
  have hys : ys[j]? = some (ys[j]'(by omega)) := List.getElem?_eq_getElem (by omega)
  refine ⟨_, _, ?_, hys, h1.trans hys⟩
  rw [← Go.Deep.add_add, hcell, hv]
end
theorem wfi64 {n : Int} (h : (Lit.int .i64 n).wf = true) : -9223372036854775808 ≤ n ∧ n ≤ 9223372036854775807 := by
 simp only [Lit.wf, IntKind.min, IntKind.max, IntKind.signed, IntKind.bits, Bool.and_eq_true, decide_eq_true_eq, if_true] at h
 omega
theorem wfu64 {n : Int} (h : (Lit.int .u64 n).wf = true) : ∃ u : Nat, n = (u : Int) ∧ u < 18446744073709551616 := by
 simp only [Lit.wf, IntKind.min, IntKind.max, IntKind.signed, IntKind.bits, Bool.and_eq_true, decide_eq_true_eq, Bool.false_eq_true, if_false] at h
 exact ⟨n.toNat, by omega, by omega⟩
end
section
open Go
def cont (d : Sd) (s : List UInt8) : Option (List UInt8) := (d.names.get s).map fun i => (d.files.getD i ([], 0)).1
def upd (f : List UInt8 → Option (List UInt8)) (s : List UInt8) (v : Option (List UInt8)) : List UInt8 → Option (List UInt8) := fun t => if t = s then v else f t
structure Calm (d : Sd) : Prop where
 wf : d.Wf
 dead : d.dead = false
 stop : d.stop = 0
 fail : d.fail = 0
 inj : ∀ p ∈ d.names, ∀ q ∈ d.names, p.2 = q.2 → p.1 = q.1
structure Small (d : Sd) (K : List (List UInt8)) (B : Nat) : Prop where
 names : ∀ s x, cont d s = some x → s ∈ K
 len : ∀ s x, cont d s = some x → x.length ≤ B
namespace Calm
variable {d : Sd} {s : List UInt8}
theorem new (q : Int) (hq : q ≤ 1099511627776) : Calm (Sd.new q) := ⟨Sd.new_wf q hq, rfl, rfl, rfl, fun p hp => by cases hp⟩
theorem cont_new (q : Int) : cont (Sd.new q) = fun _ => none := rfl
theorem call (h : Calm d) {l : List (List UInt8)} (hl : l.all Sd.named = true) : d.call l = ({ d with calls := RowKit.wrap64 (d.calls + 1) }, 0) := by
 unfold Sd.call
 rw [if_neg (by simp [hl])]
 simp only [h.dead, h.stop, h.fail]
 rfl
theorem get_of {x : List UInt8} (hc : cont d s = some x) : ∃ i, d.names.get s = some i ∧ (d.files.getD i ([], 0)).1 = x := by
 unfold cont at hc
 cases hg : d.names.get s with
 | none => rw [hg] at hc; cases hc
 | some i => rw [hg] at hc; injection hc with hc; exact ⟨i, rfl, hc⟩
theorem get_none (hc : cont d s = none) : d.names.get s = none := by
 unfold cont at hc
 cases hg : d.names.get s with
 | none => rfl
 | some i => rw [hg] at hc; cases hc
theorem recall (h : Calm d) (n : Int) : Calm { d with calls := n } := by
 obtain ⟨⟨a1, a2, a3, a4, a5, a6, a7, a8, b1, b2, b3, a9, a10⟩, c1, c2, c3, c4⟩ := h
 exact ⟨⟨a1, a2, a3, a4, a5, a6, a7, a8, b1, b2, b3, a9, a10⟩, c1, c2, c3, c4⟩
theorem read (h : Calm d) (hs : Sd.named s = true) {x : List UInt8} (hc : cont d s = some x) : d.read s = (x, 0) := by
 obtain ⟨i, hg, hx⟩ := get_of hc
 unfold Sd.read
 rw [if_neg (by simp [hs]), if_neg (by simp [h.dead]), hg]
 simp only
 rw [hx]
theorem read_none (h : Calm d) (hs : Sd.named s = true) (hc : cont d s = none) : (d.read s).2 = 11 := by
 unfold Sd.read
 rw [if_neg (by simp [hs]), if_neg (by simp [h.dead]), get_none hc]
theorem create (h : Calm d) (hs : Sd.named s = true) (hc : cont d s = none) (hn : d.names.length < 64) : (d.create s).2 = 0 ∧ Calm (d.create s).1 ∧ cont (d.create s).1 = upd (cont d) s (some []) ∧ (d.create s).1.quota = d.quota := by
 have hw := h.wf.create s
 have hg := get_none hc
 have e : d.create s = ({ d with calls := RowKit.wrap64 (d.calls + 1), names := d.names.put s d.files.length, turns := d.turns ++ [⟨1, d.files.length, s, []⟩], files := d.files ++ [([], 0)] }, 0) := by
  unfold Sd.create
  rw [h.call (by simpa using hs)]
  simp only [ne_eq, not_true_eq_false, if_false, hg, Option.isSome_none, Bool.false_eq_true]
  rw [if_neg (by omega)]
 rw [e] at hw ⊢
 refine ⟨rfl, ⟨hw, h.dead, h.stop, h.fail, fun p hp q hq he => ?_⟩, ?_, rfl⟩
 ·rcases Nm.mem_put.1 hp with rfl | ⟨hp, _⟩ <;> rcases Nm.mem_put.1 hq with rfl | ⟨hq, _⟩
  ·rfl
  ·have := h.wf.names q hq
   simp only at he
   omega
  ·have := h.wf.names p hp
   simp only at he
   omega
  ·exact h.inj p hp q hq he
 ·funext t
  unfold cont upd
  dsimp only
  by_cases ht : t = s
  ·subst ht
   rw [if_pos rfl, Nm.get_put_same h.wf.apart]
   simp
  ·rw [if_neg ht, Nm.get_put_other h.wf.apart ht]
   cases hgt : d.names.get t with
   | none => rfl
   | some i =>
    have hi := h.wf.names _ (Nm.get_mem hgt)
    simp only at hi
    simp [List.getD_eq_getElem?_getD, List.getElem?_append_left hi]
theorem cont_set (h : Calm d) {i : Nat} (hg : d.names.get s = some i) (f : List UInt8 × Nat) : cont { d with files := d.files.set i f } = upd (cont d) s (some f.1) := by
 funext t
 have hi : i < d.files.length := h.wf.names _ (Nm.get_mem hg)
 unfold cont upd
 dsimp only
 by_cases ht : t = s
 ·subst ht
  rw [if_pos rfl, hg]
  simp [List.getD_eq_getElem?_getD, hi]
 ·rw [if_neg ht]
  cases hgt : d.names.get t with
  | none => rfl
  | some j =>
   have hij : i ≠ j := fun e => ht ((h.inj _ (Nm.get_mem hgt) _ (Nm.get_mem hg) (by simp [e])))
   simp [List.getD_eq_getElem?_getD, List.getElem?_set, hij]
theorem append (h : Calm d) (hs : Sd.named s = true) {x : List UInt8} (hc : cont d s = some x) (b : List UInt8) (h1 : x.length + b.length ≤ 250000) (h2 : d.used + b.length ≤ d.quota) : (d.append s b).2 = 0 ∧ Calm (d.append s b).1 ∧ cont (d.append s b).1 = upd (cont d) s (some (x ++ b)) ∧ (d.append s b).1.quota = d.quota := by
 have hw := h.wf.append s b
 obtain ⟨i, hg, hx⟩ := get_of hc
 have e : d.append s b = ({ d with calls := RowKit.wrap64 (d.calls + 1), files := d.files.set i (x ++ b, (d.files.getD i ([], 0)).2) }, 0) := by
  unfold Sd.append
  rw [h.call (by simpa using hs)]
  simp only [ne_eq, not_true_eq_false, if_false, hg]
  unfold Sd.size
  rw [hx, if_neg (by omega), if_neg (by omega)]
 rw [e] at hw ⊢
 refine ⟨rfl, ⟨hw, h.dead, h.stop, h.fail, h.inj⟩, ?_, rfl⟩
 exact (h.recall (RowKit.wrap64 (d.calls + 1))).cont_set hg _
theorem sync (h : Calm d) (hs : Sd.named s = true) {x : List UInt8} (hc : cont d s = some x) : (d.sync s).2 = 0 ∧ Calm (d.sync s).1 ∧ cont (d.sync s).1 = cont d ∧ (d.sync s).1.quota = d.quota := by
 have hw := h.wf.sync s
 obtain ⟨i, hg, hx⟩ := get_of hc
 have e : d.sync s = ({ d with calls := RowKit.wrap64 (d.calls + 1), files := d.files.set i (x, d.size i) }, 0) := by
  unfold Sd.sync
  rw [h.call (by simpa using hs)]
  simp only [ne_eq, not_true_eq_false, if_false, hg]
  rw [hx]
 rw [e] at hw ⊢
 refine ⟨rfl, ⟨hw, h.dead, h.stop, h.fail, h.inj⟩, ?_, rfl⟩
 have h2 := (h.recall (RowKit.wrap64 (d.calls + 1))).cont_set hg (x, d.size i)
 refine h2.trans ?_
 funext t
 unfold upd
 split
 ·subst_vars; exact hc.symm
 ·rfl
theorem length_names (h : Calm d) {K : List (List UInt8)} {B : Nat} (hk : Small d K B) : d.names.length ≤ K.length ∧ d.used ≤ K.length * B := by
 have key : ∀ (m : Nm) (K : List (List UInt8)), Nm.Apart m → (∀ p ∈ m, p.1 ∈ K ∧ d.size p.2 ≤ B) → m.length ≤ K.length ∧ (m.map fun p => d.size p.2).sum ≤ K.length * B := by
  intro m
  induction m with
  | nil => intro K _ _; simp
  | cons p r ih =>
   intro K ha hm
   obtain ⟨h1, h2⟩ := List.pairwise_cons.1 ha
   obtain ⟨hp, hs⟩ := hm p (by simp)
   have hl := List.length_erase_of_mem hp
   have hpos : 0 < K.length := List.length_pos_of_mem hp
   obtain ⟨i1, i2⟩ := ih (K.erase p.1) h2 (fun q hq => ⟨by
    have := (hm q (by simp [hq])).1
    exact (List.mem_erase_of_ne (fun e => h1 q hq e.symm)).2 this, (hm q (by simp [hq])).2⟩)
   rw [hl] at i1 i2
   refine ⟨by simp; omega, ?_⟩
   simp only [List.map_cons, List.sum_cons]
   have e : K.length * B = (K.length - 1) * B + B := by
    conv => lhs; rw [show K.length = (K.length - 1) + 1 by omega, Nat.add_mul, Nat.one_mul]
   omega
 refine key d.names K h.wf.apart (fun p hp => ?_)
 have hg := Nm.mem_get h.wf.apart (s := p.1) (i := p.2) (by simpa using hp)
 have hc : cont d p.1 = some (d.files.getD p.2 ([], 0)).1 := by unfold cont; rw [hg]; rfl
 exact ⟨hk.names _ _ hc, hk.len _ _ hc⟩
theorem write (h : Calm d) (hs : Sd.named s = true) (hc : cont d s = none) {K : List (List UInt8)} {B : Nat} (hk : Small d K B) (hK : K.length < 64) (b : List UInt8) (h1 : b.length ≤ 250000) (h2 : (K.length + 1) * B + b.length ≤ d.quota) :
  (d.write s b).2 = 0 ∧ Calm (d.write s b).1 ∧ cont (d.write s b).1 = upd (cont d) s (some b) ∧ (d.write s b).1.quota = d.quota := by
 obtain ⟨l1, l2⟩ := h.length_names hk
 obtain ⟨c1, c2, c3, c4⟩ := h.create hs hc (by omega)
 have hk2 : Small (d.create s).1 (s :: K) B := ⟨fun t x ht => by
  rw [c3] at ht
  unfold upd at ht
  split at ht
  ·subst_vars; simp
  ·exact List.mem_cons_of_mem _ (hk.names t x ht), fun t x ht => by
  rw [c3] at ht
  unfold upd at ht
  split at ht
  ·injection ht with ht; subst ht; simp
  ·exact hk.len t x ht⟩
 obtain ⟨_, l4⟩ := c2.length_names hk2
 have hcs : cont (d.create s).1 s = some [] := by rw [c3, upd, if_pos rfl]
 simp only [List.length_cons] at l4
 obtain ⟨a1, a2, a3, a4⟩ := c2.append hs hcs b (by simp; exact h1) (by rw [c4]; omega)
 have hcb : cont ((d.create s).1.append s b).1 s = some b := by rw [a3, upd, if_pos rfl]; rfl
 obtain ⟨b1, b2, b3, b4⟩ := a2.sync hs hcb
 unfold Sd.write
 rw [if_neg (by simp [c1]), if_neg (by simp [a1])]
 refine ⟨b1, b2, ?_, b4.trans (a4.trans c4)⟩
 rw [b3, a3, c3]
 funext t
 unfold upd
 split <;> rfl
theorem remove (h : Calm d) (hs : Sd.named s = true) {x : List UInt8} (hc : cont d s = some x) : (d.remove s).2 = 0 ∧ Calm (d.remove s).1 ∧ cont (d.remove s).1 = upd (cont d) s none ∧ (d.remove s).1.quota = d.quota := by
 have hw := h.wf.remove s
 obtain ⟨i, hg, hx⟩ := get_of hc
 have e : d.remove s = ({ d with calls := RowKit.wrap64 (d.calls + 1), names := d.names.del s, turns := d.turns ++ [⟨3, 0, s, []⟩] }, 0) := by
  unfold Sd.remove
  rw [h.call (by simpa using hs)]
  simp only [ne_eq, not_true_eq_false, if_false, hg, Option.isNone_some, Bool.false_eq_true]
  rfl
 rw [e] at hw ⊢
 refine ⟨rfl, ⟨hw, h.dead, h.stop, h.fail, fun p hp q hq he => h.inj p (Nm.mem_del.1 hp).1 q (Nm.mem_del.1 hq).1 he⟩, ?_, rfl⟩
 funext t
 unfold cont upd
 dsimp only
 by_cases ht : t = s
 ·subst ht
  rw [if_pos rfl, Nm.get_del_same]
  rfl
 ·rw [if_neg ht, Nm.get_del_other h.wf.apart ht]
theorem rename (h : Calm d) {a b : List UInt8} (ha : Sd.named a = true) (hb : Sd.named b = true) (hne : a ≠ b) {x : List UInt8} (hc : cont d a = some x) : (d.rename a b).2 = 0 ∧ Calm (d.rename a b).1 ∧ cont (d.rename a b).1 = upd (upd (cont d) b (some x)) a none ∧ (d.rename a b).1.quota = d.quota := by
 have hw := h.wf.rename a b
 obtain ⟨i, hg, hx⟩ := get_of hc
 have hgo : Tn.go ⟨2, 0, a, b⟩ d.names = (d.names.put b i).del a := by unfold Tn.go; simp [hg]
 have e : d.rename a b = ({ d with calls := RowKit.wrap64 (d.calls + 1), names := (d.names.put b i).del a, turns := d.turns ++ [⟨2, 0, a, b⟩] }, 0) := by
  unfold Sd.rename
  rw [h.call (by simp [ha, hb])]
  simp only [ne_eq, not_true_eq_false, if_false, hg, Option.isNone_some, Bool.false_eq_true, hne]
  rw [hgo]
 rw [e] at hw ⊢
 have hap := Nm.apart_put h.wf.apart b i
 refine ⟨rfl, ⟨hw, h.dead, h.stop, h.fail, fun p hp q hq he => ?_⟩, ?_, rfl⟩
 ·obtain ⟨hp, hpa⟩ := Nm.mem_del.1 hp
  obtain ⟨hq, hqa⟩ := Nm.mem_del.1 hq
  have ham := Nm.get_mem hg
  rcases Nm.mem_put.1 hp with rfl | ⟨hp, _⟩ <;> rcases Nm.mem_put.1 hq with rfl | ⟨hq, _⟩
  ·rfl
  ·exact absurd (h.inj _ ham q hq (by simpa using he)).symm hqa
  ·exact absurd (h.inj p hp _ ham (by simpa using he)) hpa
  ·exact h.inj p hp q hq he
 ·funext t
  unfold cont upd
  dsimp only
  by_cases ht : t = a
  ·subst ht
   rw [if_pos rfl, Nm.get_del_same]
   rfl
  ·rw [if_neg ht, Nm.get_del_other hap ht]
   by_cases ht2 : t = b
   ·subst ht2
    rw [if_pos rfl, Nm.get_put_same h.wf.apart]
    simp only [Option.map_some]
    rw [hx]
   ·rw [if_neg ht2, Nm.get_put_other h.wf.apart ht2]
theorem syncDir (h : Calm d) : (d.syncDir).2 = 0 ∧ Calm (d.syncDir).1 ∧ cont (d.syncDir).1 = cont d ∧ (d.syncDir).1.quota = d.quota := by
 have hw := h.wf.syncDir
 have e : d.syncDir = ({ d with calls := RowKit.wrap64 (d.calls + 1), lasted := d.names, turns := [] }, 0) := by
  unfold Sd.syncDir
  rw [h.call rfl]
  rfl
 rw [e] at hw ⊢
 exact ⟨rfl, ⟨hw, h.dead, h.stop, h.fail, h.inj⟩, rfl, rfl⟩
theorem mem_list (h : Calm d) : s ∈ d.list ↔ ∃ x, cont d s = some x := by
 unfold Sd.list
 rw [if_neg (by simp [h.dead]), List.mem_mergeSort]
 constructor
 ·intro hm
  obtain ⟨p, hp, rfl⟩ := List.mem_map.1 hm
  have hg := Nm.mem_get h.wf.apart (s := p.1) (i := p.2) (by simpa using hp)
  exact ⟨_, by unfold cont; rw [hg]; rfl⟩
 ·rintro ⟨x, hx⟩
  obtain ⟨i, hg, _⟩ := get_of hx
  exact List.mem_map.2 ⟨(s, i), Nm.get_mem hg, rfl⟩
end Calm
end
section
open Go
namespace Mw
open Mn
def man (n : Nat) : List UInt8 := name kMan n
def rest (n : Nat) (t : List UInt8) : List UInt8 → Option (List UInt8) := fun s => if s = man n then some t else if s = kCur then some (headB n) else none
theorem fits_kMan {n : Nat} (h1 : 1 ≤ n) (h2 : n ≤ 1073741824) : (fits n && isKind kMan) = true := by
 have : isKind kMan = true := by decide
 rw [this]
 simp [fits]
 omega
theorem man_digits {n : Nat} (h1 : 1 ≤ n) (h2 : n ≤ 1073741824) : man n = [109, 97, 110, 46] ++ Lib.decDigits n := by
 rw [man, name_digits (fits_kMan h1 h2)]
 rfl
theorem man_named {n : Nat} (h1 : 1 ≤ n) (h2 : n ≤ 1073741824) : Sd.named (man n) = true := name_named (fits_kMan h1 h2)
theorem man_cur {n : Nat} (h1 : 1 ≤ n) (h2 : n ≤ 1073741824) : man n ≠ kCur := by
 rw [man_digits h1 h2]
 simp [kCur]
theorem man_temp {n : Nat} (h1 : 1 ≤ n) (h2 : n ≤ 1073741824) : man n ≠ kTemp := by
 rw [man_digits h1 h2]
 simp [kTemp]
theorem cur_temp : kCur ≠ kTemp := by decide
theorem man_inj {n k : Nat} (h1 : 1 ≤ n) (h2 : n ≤ 1073741824) (e : man k = man n) : k = n := by
 have := name_inj (fits_kMan h1 h2) e
 omega
theorem number_man {n : Nat} (h1 : 1 ≤ n) (h2 : n ≤ 1073741824) : number (man n) kMan = some (n : Int) := number_name (fits_kMan h1 h2)
theorem number_cur : number kCur kMan = none := by
 unfold number
 rw [if_neg (by decide)]
theorem number_temp : number kTemp kMan = none := by
 unfold number
 rw [if_neg (by decide)]
theorem sweep_none (nm : List UInt8) : ∀ (l : List (List UInt8)) (d : Sd), (∀ s ∈ l, (number s kMan).isSome = true → s = nm) → sweep nm l d = d
 | [], d, _ => rfl
 | o :: r, d, h => by
  rw [sweep]
  have : ((number o kMan).isSome && !(o == nm)) = false := by
   cases ho : (number o kMan).isSome with
   | false => rfl
   | true =>
    have := h o (by simp) ho
    simp [this]
  rw [this]
  exact sweep_none nm r d (fun s hs => h s (by simp [hs]))
theorem sweep_one {nm : List UInt8} {old : List UInt8} (hold : Sd.named old = true) (hne : old ≠ nm) (hnum : (number old kMan).isSome = true) : ∀ (l : List (List UInt8)) (d : Sd), Calm d → (∃ x, cont d old = some x) → old ∈ l → (∀ s ∈ l, (number s kMan).isSome = true → s = nm ∨ s = old) → l.Nodup →
  Calm (sweep nm l d) ∧ cont (sweep nm l d) = upd (cont d) old none ∧ (sweep nm l d).quota = d.quota
 | [], _, _, _, h, _, _ => by cases h
 | o :: r, d, hc, hx, hm, hl, hnd => by
  obtain ⟨n1, n2⟩ := List.nodup_cons.1 hnd
  rw [sweep]
  rcases List.mem_cons.1 hm with rfl | hm
  ·obtain ⟨x, hx⟩ := hx
   obtain ⟨r1, r2, r3, r4⟩ := hc.remove hold hx
   have : ((number old kMan).isSome && !(old == nm)) = true := by simp [hnum, hne]
   rw [this, if_pos rfl, sweep_none nm r _ (fun s hs h => by
    rcases hl s (by simp [hs]) h with h1 | h1
    ·exact h1
    ·exact absurd (h1 ▸ hs) n1)]
   exact ⟨r2, r3, r4⟩
  ·have : ((number o kMan).isSome && !(o == nm)) = false := by
    cases ho : (number o kMan).isSome with
    | false => rfl
    | true =>
     rcases hl o (by simp) ho with h1 | h1
     ·simp [h1]
     ·exact absurd (h1 ▸ hm) n1
   rw [this]
   exact sweep_one hold hne hnum r d hc hx hm (fun s hs => hl s (by simp [hs])) n2
theorem list_nodup {d : Sd} (h : Calm d) : d.list.Nodup := by
 unfold Sd.list
 rw [if_neg (by simp [h.dead])]
 have h1 : (d.names.map (·.1)).Nodup := by
  have := h.wf.apart
  unfold Nm.Apart at this
  exact List.Pairwise.map _ (fun a b hab => hab) this
 exact (List.mergeSort_perm _ _).nodup_iff.2 h1
theorem cur_named : Sd.named kCur = true := by decide
theorem temp_named : Sd.named kTemp = true := by decide
end Mw
end
section
open Go
namespace Gw
open Mn
open Mw (kCur kTemp headB sweep man rest man_named man_cur man_temp man_inj cur_temp cur_named temp_named number_man number_cur number_temp sweep_none sweep_one list_nodup)
end Gw
end
section
open Go Go.RowKit Go.Shelf
structure At (W0 w : World) (X : Dw) (S : Sd) (m : Nat) (M : Ms) : Prop where
 dm : Dm w X S
 man : MK w m X.d M
 away : m ∉ X.foot
 low : ∀ g ∈ X.foot, W0.heap.size ≤ g
 lowm : W0.heap.size ≤ m
 bel : Below W0.heap.size W0 w
variable {W0 w w1 w2 : World} {X X1 : Dw} {S S1 : Sd} {m m1 : Nat} {M M1 : Ms}
theorem Chg.under {F : List Nat} {B : Nat} (h : Chg F w w1) (hB : B ≤ w.heap.size) (hF : ∀ g ∈ F, B ≤ g) : Below B w w1 := h.below hB hF
theorem At.below (h : At W0 w X S m M) (hb : Below w.heap.size w w1) : At W0 w1 X S m M := ⟨h.dm.below hb, h.man.below hb, h.away, h.low, h.lowm, h.bel.trans (hb.mono h.bel.size)⟩
theorem At.acc (h : At W0 w X S m M) (k : Acc [] X w S1 w1 X1) : At W0 w1 X1 S1 m M := by
 have hc : Chg X.foot w w1 := by simpa using k.c
 have ha : m ∉ X1.foot := fun hm => by
  rcases k.f m hm with h1 | h1
  ·exact h.away h1
  ·have := h.man.lt
   omega
 exact ⟨k.dm, by rw [k.e]; exact h.man.chg hc h.away, ha, fun g hg => by
  rcases k.f g hg with h1 | h1
  ·exact h.low g h1
  ·exact Nat.le_trans h.bel.size h1, h.lowm, h.bel.trans (hc.under h.bel.size h.low)⟩
theorem At.born (h : At W0 w X S m M) (k : Born X w S1 M1 m1 w1 X1) : At W0 w1 X1 S1 m1 M1 ∧ MK w1 m X.d M :=
 ⟨⟨k.dm, by rw [k.e]; exact k.man, k.away, fun g hg => by
  rcases k.f g hg with h1 | h1
  ·exact h.low g h1
  ·exact Nat.le_trans h.bel.size h1, Nat.le_trans h.bel.size k.new, h.bel.trans (k.c.under h.bel.size h.low)⟩, h.man.chg k.c h.away⟩
def text (es : List Bv) : List UInt8 := Fr.all 6 (es.map Bv.bytes)
theorem bytes_len (e : Bv) : e.bytes.length ≤ 60000 := by
 have h := recB_len e
 rw [Mw.recB, Fr.put_length] at h
 omega
structure Chain (es : List Bv) : Prop where
 pos : 0 < es.length
 may : ∀ e ∈ es, e.may = true
 ok : ∀ k, k < es.length → (Bv.run (es.take (k + 1))).ok = true
theorem Chain.one {e : Bv} (h : e.ok = true) (hz : Bv.app Bv.zero e = e) : Chain [e] := ⟨by simp, fun x hx => by
 rw [List.mem_singleton.1 hx]
 obtain ⟨_, h2, h3⟩ := Bv.ok_iff.1 h
 exact Bv.may_iff.2 ⟨h2, h3⟩, fun k hk => by
 have : k = 0 := by simp at hk; omega
 subst this
 simpa [Bv.run, hz] using h⟩
namespace Mw
open Mn
end Mw
end
section
open Go Go.RowKit Go.Shelf
def v1 : Bv := ⟨1, 0, 0, 0, 0⟩
end
section
open Go Go.RowKit Go.Shelf
structure GAt (P : Sl) (W0 w : World) (X : Dw) (S : Sd) (m : Nat) (M : Gs) : Prop where
 dm : Dm w X S
 man : GK w m X.d M P
 row : Vrow w X m P M.v.files
 away : m ∉ X.foot
 low : ∀ g ∈ X.foot, W0.heap.size ≤ g
 lowm : W0.heap.size ≤ m
 bel : Below W0.heap.size W0 w
variable {P P1 : Sl} {W0 w w1 w2 : World} {X X1 : Dw} {S S1 : Sd} {m m1 : Nat} {M M1 : Gs}
theorem GAt.below (h : GAt P W0 w X S m M) (hb : Below w.heap.size w w1) : GAt P W0 w1 X S m M := ⟨h.dm.below hb, h.man.below hb, h.row.below hb, h.away, h.low, h.lowm, h.bel.trans (hb.mono h.bel.size)⟩
theorem GAt.acc (h : GAt P W0 w X S m M) (k : Acc [] X w S1 w1 X1) : GAt P W0 w1 X1 S1 m M := by
 have hc : Chg X.foot w w1 := by simpa using k.c
 have ha : m ∉ X1.foot := fun hm => by
  rcases k.f m hm with h1 | h1
  ·exact h.away h1
  ·have := h.man.lt
   omega
 exact ⟨k.dm, by rw [k.e]; exact h.man.chg hc h.away, h.row.step hc k.f, ha, fun g hg => by
  rcases k.f g hg with h1 | h1
  ·exact h.low g h1
  ·exact Nat.le_trans h.bel.size h1, h.lowm, h.bel.trans (hc.under h.bel.size h.low)⟩
theorem GAt.born (h : GAt P W0 w X S m M) (k : GBorn P1 X w S1 M1 m1 w1 X1) : GAt P1 W0 w1 X1 S1 m1 M1 ∧ GK w1 m X.d M P :=
 ⟨⟨k.dm, by rw [k.e]; exact k.man, k.row, k.away, fun g hg => by
  rcases k.f g hg with h1 | h1
  ·exact h.low g h1
  ·exact Nat.le_trans h.bel.size h1, Nat.le_trans h.bel.size k.new, h.bel.trans (k.c.under h.bel.size h.low)⟩, h.man.chg k.c h.away⟩
def v1g : Vw := ⟨1, [], 0, 0, 0, 0⟩
end
section
open Go Go.RowKit
structure Ev where
 e : Ed
 D : Option Addr
 m : Nat
 d : Nat
 A : Option Addr
 n : Nat
 c : Nat
def Ev.cs (x : Ev) : List Value := x.e.cells x.D x.m x.d x.A x.n x.c
theorem Ev.cs_len (x : Ev) : x.cs.length = 7 := rfl
structure Ev.ok (B : Nat) (w : World) (x : Ev) : Prop where
 d : Row B w x.D x.m 1 (icells x.e.drop)
 a : Row B w x.A x.n 2 (fcells x.e.add)
 nc : x.n ≤ x.c
 cm : x.c ≤ maxLen
structure Vc where
 v : Vw
 A : Option Addr
 n : Nat
 c : Nat
def Vc.cs (x : Vc) : List Value := x.v.cells x.A x.n x.c
theorem Vc.cs_len (x : Vc) : x.cs.length = 6 := rfl
structure Vc.ok (B : Nat) (w : World) (x : Vc) : Prop where
 row : Row B w x.A x.n 2 (fcells x.v.files)
 nc : x.n ≤ x.c
 cm : x.c ≤ maxLen
 few : x.n ≤ 40
structure Eds (B : Nat) (w : World) (A : Option Addr) (n : Nat) (xs : List Ev) : Prop where
 row : Row B w A n 7 (xs.flatMap Ev.cs)
 ok : ∀ x ∈ xs, x.ok B w
structure Vws (B : Nat) (w : World) (A : Option Addr) (n : Nat) (xs : List Vc) : Prop where
 row : Row B w A n 6 (xs.flatMap Vc.cs)
 ok : ∀ x ∈ xs, x.ok B w
variable {B B' n : Nat} {w w' : World} {A : Option Addr} {xs : List Ev} {ys : List Vc}
theorem Ev.ok.below {x : Ev} (h : x.ok B w) (hb : Below B w w') : x.ok B w' := ⟨h.d.below hb, h.a.below hb, h.nc, h.cm⟩
theorem Ev.ok.up {x : Ev} (h : x.ok B w) (hb : B ≤ B') : x.ok B' w := ⟨h.d.up hb, h.a.up hb, h.nc, h.cm⟩
theorem Vc.ok.below {x : Vc} (h : x.ok B w) (hb : Below B w w') : x.ok B w' := ⟨h.row.below hb, h.nc, h.cm, h.few⟩
theorem Vc.ok.up {x : Vc} (h : x.ok B w) (hb : B ≤ B') : x.ok B' w := ⟨h.row.up hb, h.nc, h.cm, h.few⟩
theorem Eds.below (h : Eds B w A n xs) (hb : Below B w w') : Eds B w' A n xs := ⟨h.row.below hb, fun x hx => (h.ok x hx).below hb⟩
theorem Eds.up (h : Eds B w A n xs) (hb : B ≤ B') : Eds B' w A n xs := ⟨h.row.up hb, fun x hx => (h.ok x hx).up hb⟩
theorem Vws.below (h : Vws B w A n ys) (hb : Below B w w') : Vws B w' A n ys := ⟨h.row.below hb, fun x hx => (h.ok x hx).below hb⟩
theorem Vws.up (h : Vws B w A n ys) (hb : B ≤ B') : Vws B' w A n ys := ⟨h.row.up hb, fun x hx => (h.ok x hx).up hb⟩
theorem Eds.len (h : Eds B w A n xs) : xs.length = n := by
 have := h.row.len
 rw [gflat_len Ev.cs 7 Ev.cs_len] at this
 omega
theorem Vws.len (h : Vws B w A n ys) : ys.length = n := by
 have := h.row.len
 rw [gflat_len Vc.cs 6 Vc.cs_len] at this
 omega
structure EvAt (w : World) (a : Addr) (k : Nat) (x : Ev) : Prop where
 c0 : w.cell? (a.add (k * 7)) = some (.slice x.D x.m x.d)
 c1 : w.cell? ⟨(a.add (k * 7)).block, (a.add (k * 7)).off + 1, none⟩ = some (.slice x.A x.n x.c)
 c2 : w.cell? ⟨(a.add (k * 7)).block, (a.add (k * 7)).off + 2, none⟩ = some (.int .i64 x.e.log)
 c3 : w.cell? ⟨(a.add (k * 7)).block, (a.add (k * 7)).off + 3, none⟩ = some (.int .u64 (x.e.floor : Int))
 c4 : w.cell? ⟨(a.add (k * 7)).block, (a.add (k * 7)).off + 4, none⟩ = some (.int .u64 (x.e.cert : Int))
 c5 : w.cell? ⟨(a.add (k * 7)).block, (a.add (k * 7)).off + 5, none⟩ = some (.int .u64 (x.e.at_ : Int))
 c6 : w.cell? ⟨(a.add (k * 7)).block, (a.add (k * 7)).off + 6, none⟩ = some (.int .u64 (x.e.lease : Int))
structure VcAt (w : World) (a : Addr) (k : Nat) (x : Vc) : Prop where
 c0 : w.cell? (a.add (k * 6)) = some (.int .i64 x.v.log)
 c1 : w.cell? ⟨(a.add (k * 6)).block, (a.add (k * 6)).off + 1, none⟩ = some (.slice x.A x.n x.c)
 c2 : w.cell? ⟨(a.add (k * 6)).block, (a.add (k * 6)).off + 2, none⟩ = some (.int .u64 (x.v.floor : Int))
 c3 : w.cell? ⟨(a.add (k * 6)).block, (a.add (k * 6)).off + 3, none⟩ = some (.int .u64 (x.v.cert : Int))
 c4 : w.cell? ⟨(a.add (k * 6)).block, (a.add (k * 6)).off + 4, none⟩ = some (.int .u64 (x.v.at_ : Int))
 c5 : w.cell? ⟨(a.add (k * 6)).block, (a.add (k * 6)).off + 5, none⟩ = some (.int .u64 (x.v.lease : Int))
theorem Eds.at_ (h : Eds B w A n xs) {k : Nat} (hk : k < n) : ∃ a, ∃ hl : k < xs.length, A = some a ∧ a.block < B ∧ EvAt w a k xs[k] ∧ (xs[k]).ok B w := by
 have hl : k < xs.length := by have := h.len; omega
 have g := fun j (hj : j < 7) => gflat_get Ev.cs 7 Ev.cs_len xs k j hl hj
 obtain ⟨a, ea, hb, c0⟩ := row_cell h.row (g 0 (by omega))
 have cc : ∀ j v, j < 7 → (Ev.cs xs[k])[j]? = some v → w.cell? (a.add (k * 7 + j)) = some v := fun j v hj hv => by
  obtain ⟨a', ea', _, c⟩ := row_cell h.row ((g j hj).trans hv)
  rw [ea] at ea'
  injection ea' with ea'
  subst ea'
  exact c
 have cd : ∀ j v, 0 < j → j < 7 → (Ev.cs xs[k])[j]? = some v → w.cell? ⟨(a.add (k * 7)).block, (a.add (k * 7)).off + j, none⟩ = some v := fun j v h0 hj hv => by
  rw [← fadd_at a (k * 7) h0]
  exact cc j v hj hv
 exact ⟨a, hl, ea, hb, ⟨c0, cd 1 _ (by omega) (by omega) rfl, cd 2 _ (by omega) (by omega) rfl, cd 3 _ (by omega) (by omega) rfl, cd 4 _ (by omega) (by omega) rfl, cd 5 _ (by omega) (by omega) rfl, cd 6 _ (by omega) (by omega) rfl⟩, h.ok _ (List.getElem_mem hl)⟩
theorem Vws.at_ (h : Vws B w A n ys) {k : Nat} (hk : k < n) : ∃ a, ∃ hl : k < ys.length, A = some a ∧ a.block < B ∧ VcAt w a k ys[k] ∧ (ys[k]).ok B w := by
 have hl : k < ys.length := by have := h.len; omega
 have g := fun j (hj : j < 6) => gflat_get Vc.cs 6 Vc.cs_len ys k j hl hj
 obtain ⟨a, ea, hb, c0⟩ := row_cell h.row (g 0 (by omega))
 have cc : ∀ j v, j < 6 → (Vc.cs ys[k])[j]? = some v → w.cell? (a.add (k * 6 + j)) = some v := fun j v hj hv => by
  obtain ⟨a', ea', _, c⟩ := row_cell h.row ((g j hj).trans hv)
  rw [ea] at ea'
  injection ea' with ea'
  subst ea'
  exact c
 have cd : ∀ j v, 0 < j → j < 6 → (Vc.cs ys[k])[j]? = some v → w.cell? ⟨(a.add (k * 6)).block, (a.add (k * 6)).off + j, none⟩ = some v := fun j v h0 hj hv => by
  rw [← fadd_at a (k * 6) h0]
  exact cc j v hj hv
 exact ⟨a, hl, ea, hb, ⟨c0, cd 1 _ (by omega) (by omega) rfl, cd 2 _ (by omega) (by omega) rfl, cd 3 _ (by omega) (by omega) rfl, cd 4 _ (by omega) (by omega) rfl, cd 5 _ (by omega) (by omega) rfl⟩, h.ok _ (List.getElem_mem hl)⟩
theorem EvAt.keep {a : Addr} {k : Nat} {x : Ev} (h : EvAt w a k x) (hc : ∀ p : Addr, p.block = a.block → w'.cell? p = w.cell? p) : EvAt w' a k x := by
 have e := add_block a (k * 7)
 exact ⟨(hc _ e).trans h.c0, (hc ⟨(a.add (k * 7)).block, _, none⟩ e).trans h.c1, (hc ⟨(a.add (k * 7)).block, _, none⟩ e).trans h.c2, (hc ⟨(a.add (k * 7)).block, _, none⟩ e).trans h.c3, (hc ⟨(a.add (k * 7)).block, _, none⟩ e).trans h.c4, (hc ⟨(a.add (k * 7)).block, _, none⟩ e).trans h.c5, (hc ⟨(a.add (k * 7)).block, _, none⟩ e).trans h.c6⟩
theorem EvAt.below {a : Addr} {k : Nat} {x : Ev} (h : EvAt w a k x) (ha : a.block < B) (hb : Below B w w') : EvAt w' a k x := h.keep fun p hp => hb.cell (by omega)
structure Edz (b0 base : Nat) (w : World) (gv ov : Value) (gs : List Ev) (vs : List Vc) : Prop where
 good : w.ownsRow base 163 7 gv gs.length (gs.flatMap Ev.cs)
 out : w.ownsRow base 134 6 ov vs.length (vs.flatMap Vc.cs)
 ge : ∀ x ∈ gs, x.ok b0 w
 ve : ∀ y ∈ vs, y.ok w.heap.size w ∧ ∀ j, j < (fcells y.v.files).length → ∀ a, y.A = some a → some a.block ≠ gv.ownBlock ∧ some a.block ≠ ov.ownBlock ∧ base ≤ a.block
 sep : ∀ g, gv.ownBlock = some g → ov.ownBlock ≠ some g
variable {b0 base : Nat} {gv ov gv' ov' : Value} {gs : List Ev} {vs : List Vc}
theorem Edz.below (h : Edz b0 base w gv ov gs vs) (hb : Below w.heap.size w w') (hB : b0 ≤ w.heap.size) : Edz b0 base w' gv ov gs vs :=
 ⟨own_below h.good hb, own_below h.out hb, fun x hx => (h.ge x hx).below (hb.mono hB), fun y hy => ⟨((h.ve y hy).1.below hb).up hb.size, (h.ve y hy).2⟩, h.sep⟩
theorem Edz.chg {g : Nat} (h : Edz b0 base w gv ov gs vs) (c : Chg [g] w w') (h0 : b0 ≤ g) (hg : g < base) (hB : b0 ≤ w.heap.size) : Edz b0 base w' gv ov gs vs :=
 ⟨own_chg h.good c (fun b hb hm => by have := (h.good.lt b hb).1; simp at hm; omega), own_chg h.out c (fun b hb hm => by have := (h.out.lt b hb).1; simp at hm; omega),
  fun x hx => (h.ge x hx).below (c.below hB (by simp; omega)), fun y hy => by
   obtain ⟨h1, h2⟩ := h.ve y hy
   exact ⟨⟨(row_chg c h1.row (Nat.le_refl _) (fun j hj a ha hm => by have := (h2 j hj a ha).2.2; simp at hm; omega)).up c.size, h1.nc, h1.cm, h1.few⟩, h2⟩, h.sep⟩
structure GChain (es : List Ed) (vs : List Vw) : Prop where
 len : vs.length = es.length + 1
 one : vs[0]? = some v1g
 step : ∀ i (h : i < es.length), (es[i]).may = true ∧ ∃ u v, vs[i]? = some u ∧ vs[i + 1]? = some v ∧ u.app es[i] = some v
theorem GChain.start : GChain [] [v1g] := ⟨rfl, rfl, fun i h => by simp at h⟩
end
section
open Go Go.RowKit Go.Shelf
variable {P : Sl} {m : Nat} {X X1 : Dw} {w w1 w2 : World} {S S1 : Sd} {M M1 : Gs}
theorem Gst.turnV {P1 : Sl} {m : Nat} {X X1 : Dw} {w w1 w2 : World} {S : Sd} {M M1 : Gs} (h : Gst P m X w S M w1 X1) (c : Chg [m] w1 w2) (hm : GK w2 m X.d M1 P1) (hv : Vrow w2 X1 m P1 M1.v.files) : Gst P1 m X w S M1 w2 X1 :=
 ⟨h.acc.other c (fun g hg => by rw [List.mem_singleton.1 hg]; exact ⟨by simp, h.lt, h.out, h.ng⟩), hm, hv, h.lt, h.out, h.ng⟩
end
end Go.Proofs.YtdkjoigpahafmaaGreatDoor
