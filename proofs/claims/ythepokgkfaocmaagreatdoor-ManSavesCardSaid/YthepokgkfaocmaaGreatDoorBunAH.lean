/- Texts ManD, ManE, ManF, ManG in one. No conditions. -/
import Derived.Test.YthepokgkfaocmaaGreatDoorBunAG
import Derived.StillTailTactics
import Derived.Deep.RegionHeld3

/-
  A manifest and its disk, step by step.
-/
namespace Go.Proofs.YthepokgkfaocmaaGreatDoor
open Go Go.RowKit Go.Shelf

/-- From w on, where a disk lay as X says and a manifest in block m, these two alone have changed; now they are S and M. -/
structure Mst (m : Nat) (X : Dw) (w : World) (S : Sd) (M : Ms) (w' : World) (X' : Dw) : Prop where
  acc : Acc [m] X w S w' X'
  man : MK w' m X.d M
  lt : m < w.heap.size
  out : m ∉ X.foot
  ng : NG ≤ m
variable {m : Nat} {X X1 : Dw} {w w1 w2 : World} {S S1 : Sd} {M M1 : Ms}
theorem Mst.start (h : Dm w X S) (hm : MK w m X.d M) (ho : m ∉ X.foot) (hn : NG ≤ m) : Mst m X w S M w X := ⟨Acc.start h, hm, hm.lt, ho, hn⟩
theorem Mst.away (h : Mst m X w S M w1 X1) : m ∉ X1.foot := fun hm => by
  rcases h.acc.f m hm with h1 | h1
  · exact h.out h1
  · have := h.lt
    omega
theorem Mst.below (h : Mst m X w S M w1 X1) (hb : Below w1.heap.size w1 w2) : Mst m X w S M w2 X1 := ⟨h.acc.below hb, h.man.below hb, h.lt, h.out, h.ng⟩
theorem Mst.step (h : Mst m X w S M w1 X1) (hu : UpdM X1 w1 w2 S1) : ∃ X2, Mst m X w S1 M w2 X2 := by
  obtain ⟨X2, hs⟩ := h.acc.step hu
  obtain ⟨_, _, _, hc, _⟩ := hu
  exact ⟨X2, hs, h.man.chg hc h.away, h.lt, h.out, h.ng⟩
/-- The manifest's own block has changed. -/
theorem Mst.turn (h : Mst m X w S M w1 X1) (c : Chg [m] w1 w2) (hm : MK w2 m X.d M1) : Mst m X w S M1 w2 X1 :=
  ⟨h.acc.other c (fun g hg => by rw [List.mem_singleton.1 hg]; exact ⟨by simp, h.lt, h.out, h.ng⟩), hm, h.lt, h.out, h.ng⟩
theorem Mst.read (h : Mst m X w S M w1 X1) (s : ByteArray) (hs : s.size ≤ maxLen) :
    Calls Tryz.prog 13 #[.pointer (some ⟨X.d, 0, none⟩), .string s] w1 fun e w' => ∃ A c, e = .returned (.tuple #[.slice A (S.read s.data.toList).1.length c, .int .i64 ((S.read s.data.toList).2 : Int)]) ∧ Below w1.heap.size w1 w' :=
  (h.acc.read s hs).mono fun _ _ ⟨A, c, h1, _, h2⟩ => ⟨A, c, h1, h2⟩
theorem Mst.write (h : Mst m X w S M w1 X1) (s : ByteArray) (hs : s.size ≤ maxLen) (A : Option Addr) (k c : Nat) (b : List UInt8) (hk : k ≤ 1099511627776) (hl : S.load ≤ 1099511627776) (hr : Row w1.heap.size w1 A k 1 (bts b)) (hA : ∀ a, A = some a → a.block ∉ X1.foot) :
    Calls Tryz.prog 67 #[.pointer (some ⟨X.d, 0, none⟩), .string s, .slice A k c] w1 fun e w' => e = .returned (.int .i64 ((S.write s.data.toList b).2 : Int)) ∧ ∃ X2, Mst m X w (S.write s.data.toList b).1 M w' X2 := by
  rw [← h.acc.e]
  exact (write_any X1 S s hs A k c b hk hl w1 h.acc.dm hr hA).mono fun _ _ ⟨h1, h2⟩ => ⟨h1, h.step h2⟩
theorem Mst.append (h : Mst m X w S M w1 X1) (s : ByteArray) (hs : s.size ≤ maxLen) (A : Option Addr) (k c : Nat) (b : List UInt8) (hk : k ≤ 1099511627776) (hr : Row w1.heap.size w1 A k 1 (bts b)) (hA : ∀ a, A = some a → a.block ∉ X1.foot) :
    Calls Tryz.prog 18 #[.pointer (some ⟨X.d, 0, none⟩), .string s, .slice A k c] w1 fun e w' => e = .returned (.int .i64 ((S.append s.data.toList b).2 : Int)) ∧ ∃ X2, Mst m X w (S.append s.data.toList b).1 M w' X2 := by
  rw [← h.acc.e]
  exact (append_any X1 S s hs A k c b hk h.acc.dm.wf w1 h.acc.dm.dk hr (fun a ha e => hA a ha (by rw [e]; exact mem_foot.2 (.inl rfl)))).mono fun _ _ ⟨h1, h2⟩ => ⟨h1, h.step (h.acc.dm.upd (h.acc.dm.wf.append _ _) h2)⟩
theorem Mst.sync (h : Mst m X w S M w1 X1) (s : ByteArray) (hs : s.size ≤ maxLen) :
    Calls Tryz.prog 45 #[.pointer (some ⟨X.d, 0, none⟩), .string s] w1 fun e w' => e = .returned (.int .i64 ((S.sync s.data.toList).2 : Int)) ∧ ∃ X2, Mst m X w (S.sync s.data.toList).1 M w' X2 := by
  rw [← h.acc.e]
  exact (sync_any X1 S s hs h.acc.dm.wf w1 h.acc.dm.dk).mono fun _ _ ⟨h1, h2⟩ => ⟨h1, h.step (h.acc.dm.upd (h.acc.dm.wf.sync _) h2)⟩
theorem Mst.remove (h : Mst m X w S M w1 X1) (s : ByteArray) (hs : s.size ≤ maxLen) (hl : S.load ≤ 1099511627776) :
    Calls Tryz.prog 16 #[.pointer (some ⟨X.d, 0, none⟩), .string s] w1 fun e w' => e = .returned (.int .i64 ((S.remove s.data.toList).2 : Int)) ∧ ∃ X2, Mst m X w (S.remove s.data.toList).1 M w' X2 := by
  rw [← h.acc.e]
  exact (remove_any X1 S s hs h.acc.dm.wf hl w1 h.acc.dm.dk).mono fun _ _ ⟨h1, h2⟩ => ⟨h1, h.step (h.acc.dm.upd (h.acc.dm.wf.remove _) h2)⟩
theorem Mst.rename (h : Mst m X w S M w1 X1) (s u : ByteArray) (hs : s.size ≤ maxLen) (hu : u.size ≤ maxLen) (hl : S.load ≤ 1099511627776) :
    Calls Tryz.prog 71 #[.pointer (some ⟨X.d, 0, none⟩), .string s, .string u] w1 fun e w' => e = .returned (.int .i64 ((S.rename s.data.toList u.data.toList).2 : Int)) ∧ ∃ X2, Mst m X w (S.rename s.data.toList u.data.toList).1 M w' X2 := by
  rw [← h.acc.e]
  exact (rename_any X1 S s u hs hu h.acc.dm.wf hl w1 h.acc.dm.dk).mono fun _ _ ⟨h1, h2⟩ => ⟨h1, h.step (h.acc.dm.upd (h.acc.dm.wf.rename _ _) h2)⟩
theorem Mst.syncDir (h : Mst m X w S M w1 X1) :
    Calls Tryz.prog 70 #[.pointer (some ⟨X.d, 0, none⟩)] w1 fun e w' => e = .returned (.int .i64 ((S.syncDir).2 : Int)) ∧ ∃ X2, Mst m X w (S.syncDir).1 M w' X2 := by
  rw [← h.acc.e]
  exact (syncDir_any X1 S h.acc.dm.wf w1 h.acc.dm.dk).mono fun _ _ ⟨h1, h2⟩ => ⟨h1, h.step (h.acc.dm.upd h.acc.dm.wf.syncDir h2)⟩
theorem Mst.break_ (h : Mst m X w S M w1 X1) : Calls Tryz.prog 46 #[.pointer (some ⟨m, 0, none⟩)] w1 fun e w' => e = .returned (.tuple #[]) ∧ Mst m X w S { M with broken := true } w' X1 :=
  (break_any m X.d M w1 h.man).mono fun _ _ ⟨h1, h2, h3⟩ => ⟨h1, h.turn h3 h2⟩
theorem Mst.trans {X2 : Dw} {S2 : Sd} {M2 : Ms} (h : Mst m X w S M w1 X1) (k : Mst m X1 w1 S2 M2 w2 X2) : Mst m X w S2 M2 w2 X2 := by
  refine ⟨⟨k.acc.e.trans h.acc.e, k.acc.dm, h.acc.c.trans k.acc.c (fun g hg => ?_), fun g hg => ?_⟩, by rw [← h.acc.e]; exact k.man, h.lt, h.out, h.ng⟩
  · rcases List.mem_append.1 hg with h1 | h1
    · exact .inl (List.mem_append_left _ h1)
    · rcases h.acc.f g h1 with h2 | h2
      · exact .inl (List.mem_append_right _ h2)
      · exact .inr h2
  · rcases k.acc.f g hg with h1 | h1
    · exact h.acc.f g h1
    · exact .inr (Nat.le_trans h.acc.c.size h1)
/-- The same, seen from now on. -/
theorem Mst.anew (h : Mst m X w S M w1 X1) : Mst m X1 w1 S M w1 X1 := Mst.start h.acc.dm (by rw [h.acc.e]; exact h.man) h.away h.ng
/-- What a rewrite or a Save leaves. -/
def Left (m : Nat) (X : Dw) (w : World) (R : Sd × Ms × Nat) (e : Ending) (w' : World) : Prop := e = .returned (.int .i64 (R.2.2 : Int)) ∧ ∃ X', Mst m X w R.1 R.2.1 w' X'
theorem Left.mk_ {S2 : Sd} {M2 : Ms} {er : Nat} {R : Sd × Ms × Nat} (hR : R = (S2, M2, er)) {X2 : Dw} (h : Mst m X w S2 M2 w1 X2) : Left m X w R (.returned (.int .i64 (er : Int))) w1 := by
  subst hR
  exact ⟨rfl, X2, h⟩

theorem recB_len (v : Bv) : (Mw.recB v).length ≤ 200 := by
  have h1 := Pn.put_len v.g
  have h2 := Pn.put_len v.f
  have h3 := Pn.put_len v.c
  have h4 := Pn.put_len v.a
  have h5 := Pn.put_len v.l
  have h6 := Pn.put_len 0
  simp only [Mw.recB, Fr.put_length, Bv.bytes, Ed.bytes, Pn.list, List.length_append, List.map_nil, List.flatMap_nil, List.length_nil, Int.toNat_natCast]
  omega
theorem headB_len (n : Int) : (Mw.headB n).length ≤ 200 := by
  have h1 := Pn.put_len n.toNat
  simp only [Mw.headB, Fr.put_length]
  omega
def sCur : ByteArray := ⟨#[99, 117, 114, 114, 101, 110, 116]⟩
def sTemp : ByteArray := ⟨#[99, 117, 114, 114, 101, 110, 116, 46, 116, 109, 112]⟩
def sMan : ByteArray := ⟨#[109, 97, 110]⟩
theorem sCur_list : sCur.data.toList = Mw.kCur := rfl
theorem sTemp_list : sTemp.data.toList = Mw.kTemp := rfl
theorem sMan_list : sMan.data.toList = Mn.kMan := rfl

theorem numV_eq (o : Option Int) : numV o = .tuple #[.int .i64 (o.getD 0), .bool o.isSome] := by cases o <;> rfl
theorem number_range (s : List UInt8) : ∃ k : Nat, (Mn.number s Mn.kMan).getD 0 = (k : Int) ∧ k ≤ 1073741824 := by
  cases h : Mn.number s Mn.kMan with
  | none => exact ⟨0, rfl, by omega⟩
  | some v =>
    have hs : s ≠ [] := fun e => by
      subst e
      unfold Mn.number at h
      rw [if_neg (by decide)] at h
      cases h
    have := Mn.number_fits h hs
    exact ⟨v.toNat, by simp; omega, by omega⟩

set_option maxRecDepth 100000 in
set_option maxHeartbeats 800000 in
theorem rewrite_any (nm : ByteArray) (hnm : nm.size ≤ 1000) (hv : M.v.ok = true) (hld : S.load ≤ 1000000000000) (h0 : Mst m X w S M w X) :
    Calls Tryz.prog 40 #[.pointer (some ⟨m, 0, none⟩), .string nm] w (Left m X w (Mw.rewrite S M nm.data.toList)) := by
  have hmk := h0.man
  have c0 := hmk.cell 0
  have c2 := hmk.cell 2
  have c3 := hmk.cell 3
  have c4 := hmk.cell 4
  have c5 := hmk.cell 5
  have c6 := hmk.cell 6
  have c7 := hmk.cell 7
  simp only [Ms.cells, List.getElem?_cons_zero, List.getElem?_cons_succ] at c0 c2 c3 c4 c5 c6 c7
  obtain ⟨R, hR⟩ : ∃ R, R = Mw.rewrite S M nm.data.toList := ⟨_, rfl⟩
  rw [← hR]
  have HR := Lib.hid hR
  clear hR
  have hwh := whole_bare (M.v.g : Int) (M.v.f : Int) (M.v.c : Int) (M.v.a : Int) (M.v.l : Int) w
  go_enter Tryz.func40, Tryz.ntmps40
  go_wp2_with fail
  refine hwh.mono ?_
  rintro e w1 ⟨rfl, hb1⟩
  have h1 := h0.below hb1
  obtain ⟨_, hv2, hv3⟩ := Bv.ok_iff.1 hv
  have hr64 : M.v.f < 18446744073709551616 ∧ M.v.c < 18446744073709551616 ∧ M.v.a < 18446744073709551616 ∧ M.v.l < 18446744073709551616 := by
    simp [bigs] at hv3
    omega
  have hput := eput_bare none 0 0 [] M.v.g M.v.f M.v.c M.v.a M.v.l w1 hv2 hv3 (by omega) (by omega) (by unfold maxLen; omega) Row.nil_ hr64
  go_wp2_with fail
  refine hput.mono ?_
  rintro e w2 ⟨A, K, c, rfl, hown, hKc, hcm, hb2⟩
  have h2 := h1.below hb2
  have hrec : ([] : List UInt8) ++ Ed.rec_ ⟨[], [], M.v.g, M.v.f, M.v.c, M.v.a, M.v.l⟩ = Mw.recB M.v := rfl
  rw [hrec] at hown
  have hrow := Row.own hown
  have hKl : K ≤ 1099511627776 := by
    have e1 := hrow.btlen
    have := recB_len M.v
    omega
  have hA : ∀ a, A = some a → a.block ∉ X.foot := fun a ha hm => by
    obtain ⟨A', c', e, _, _, h6⟩ := own_form hown
    injection e with e _ _
    have h7 := (h6 a (by rw [← e]; exact ha)).1
    have h8 := h1.acc.dm.dk.lt _ hm
    omega
  have hwr := h2.write nm (by unfold maxLen; omega) A K c (Mw.recB M.v) hKl (by omega) hrow hA
  have hld1 := Sd.write_load S nm.data.toList (Mw.recB M.v)
  have HWR := Lib.hid hwr
  have HST : R = if (S.write nm.data.toList (Mw.recB M.v)).2 ≠ 0 then ((S.write nm.data.toList (Mw.recB M.v)).1, M, (S.write nm.data.toList (Mw.recB M.v)).2) else Mw.tmp (S.write nm.data.toList (Mw.recB M.v)).1 M nm.data.toList := HR.out
  clear hwr HR hrec hput hwh hA hown hrow hr64 hb1 hb2
  generalize S.write nm.data.toList (Mw.recB M.v) = P at *
  obtain ⟨S1, e1⟩ := P
  simp only at HST hld1
  have HS := Lib.hid HST
  clear HST
  go_wp2_with fail
  refine HWR.out.mono ?_
  rintro e w3 ⟨rfl, X3, h3⟩
  by_cases q1 : e1 = 0
  case neg =>
    have hne := neq0 q1
    have hh := HS.out
    rw [if_pos q1] at hh
    have hl := Lib.hid (Left.mk_ hh h3)
    clear hh
    go_wp2
    go_ret
    exact hl.out
  subst q1
  have HS2 : Hid (R = Mw.tmp S1 M nm.data.toList) := HS.out.trans (if_neg (by simp))
  have hrd := h3.read sTemp (by decide)
  rw [sTemp_list] at hrd
  unfold sTemp at hrd
  have HRD := Lib.hid hrd
  clear hrd HS HWR
  go_wp2_with fail
  refine HRD.out.mono ?_
  rintro e w4 ⟨A4, c4, rfl, hb4⟩
  have h4 := h3.below hb4
  clear HRD hb4
  generalize hE : (S1.read Mw.kTemp).2 = er2
  generalize (S1.read Mw.kTemp).1.length = ln2
  have HE := Lib.hid hE
  clear hE
  go_upto_if 53 with (fail)
  go_cut [] (fun wx => ∃ S2 X2, Mst m X w S2 M wx X2 ∧ Hid (R = Mw.hd S2 M nm.data.toList) ∧ S2.load ≤ S.load + 3)
  case first =>
    by_cases q2 : er2 = 0
    · subst q2
      have hrm := h4.remove sTemp (by decide) (by omega)
      rw [sTemp_list] at hrm
      unfold sTemp at hrm
      have hl2 := Sd.remove_load S1 Mw.kTemp
      have HT : R = if (S1.remove Mw.kTemp).2 ≠ 0 then ((S1.remove Mw.kTemp).1, M, (S1.remove Mw.kTemp).2) else Mw.hd (S1.remove Mw.kTemp).1 M nm.data.toList := HS2.out.trans (if_pos HE.out)
      generalize S1.remove Mw.kTemp = P at *
      obtain ⟨S2, e2⟩ := P
      simp only at HT hl2
      have HRM := Lib.hid hrm
      have HT2 := Lib.hid HT
      clear hrm HT
      go_wp2_with fail
      refine HRM.out.mono ?_
      rintro e w5 ⟨rfl, X5, h5⟩
      by_cases q3 : e2 = 0
      · subst q3
        have HT3 : Hid (R = Mw.hd S2 M nm.data.toList) := HT2.out.trans (if_neg (by simp))
        go_wp2_with fail
        go_meet
        case rel => exact ⟨S2, X5, h5, HT3, by omega⟩
      · have hne := neq0 q3
        have hh := HT2.out
        rw [if_pos q3] at hh
        have hl := Lib.hid (Left.mk_ hh h5)
        clear hh
        go_wp2
        go_ret
        exact hl.out
    · have q3 : (((er2 : Int)) == 0) = false := by simp [q2]
      have HT3 : Hid (R = Mw.hd S1 M nm.data.toList) := HS2.out.trans (if_neg (by rw [HE.out]; exact q2))
      go_wp2_with fail
      go_meet
      case rel => exact ⟨S1, X3, h4, HT3, by omega⟩
  case rest =>
    obtain ⟨S2, X5, h5, HT3, hl3⟩ := hcut
    clear h4 HS2 HE h3 h2 h1 hld1
    have hnum := number_any nm sMan (by omega) (by decide) wc h5.acc.dm.env
    rw [sMan_list, numV_eq] at hnum
    obtain ⟨k, hk, hk2⟩ := number_range nm.data.toList
    rw [hk] at hnum
    have HK := Lib.hid hk
    unfold sMan at hnum
    have HN := Lib.hid hnum
    clear hnum hk
    go_wp2_with fail
    refine HN.out.mono ?_
    rintro e w6 ⟨rfl, hb6⟩
    have h6 := h5.below hb6
    have hp := put_any none 0 0 [] k (by omega) w6 (by omega) Row.nil_
    simp only [Nat.zero_add, List.nil_append] at hp
    clear HN h5 hb6
    go_wp2_with fail
    refine hp.mono ?_
    rintro e w7 ⟨A7, c7', rfl, hown7, hc7, hm7, hb7⟩
    have h7 := h6.below hb7
    have hpl := Pn.put_len k
    have hf := fput_any none 0 0 [] 8 A7 (Pn.put k).length c7' (Pn.put k) w7 (by omega) (by omega) (by unfold maxLen; omega) Row.nil_ (by omega) (by omega) (by omega) hc7 hm7 (Row.own hown7)
    rw [show ((8 : Nat) : Int) = 8 from rfl] at hf
    simp only [List.nil_append] at hf
    clear hp hown7
    go_wp2_with fail
    refine hf.mono ?_
    rintro e w8 ⟨A8, K8, c8, rfl, hown8, hK8, hm8, hb8⟩
    have h8 := h7.below hb8
    have hhead : Fr.put 8 (Pn.put k) = Mw.headB ((Mn.number nm.data.toList Mn.kMan).getD 0) := by
      rw [HK.out]
      rfl
    rw [hhead] at hown8
    have hrow8 := Row.own hown8
    have hKl : K8 ≤ 1099511627776 := by
      have e1 := hrow8.btlen
      have := headB_len ((Mn.number nm.data.toList Mn.kMan).getD 0)
      omega
    have hA : ∀ a, A8 = some a → a.block ∉ X5.foot := fun a ha hm => by
      obtain ⟨A', c', e, _, _, h6⟩ := own_form hown8
      injection e with e _ _
      have h9 := (h6 a (by rw [← e]; exact ha)).1
      have h10 := h7.acc.dm.dk.lt _ hm
      omega
    have hwr := h8.write sTemp (by decide) A8 K8 c8 _ hKl (by omega) hrow8 hA
    rw [sTemp_list] at hwr
    unfold sTemp at hwr
    have hl4 := Sd.write_load S2 Mw.kTemp (Mw.headB ((Mn.number nm.data.toList Mn.kMan).getD 0))
    have HT4 : R = if (S2.write Mw.kTemp (Mw.headB ((Mn.number nm.data.toList Mn.kMan).getD 0))).2 ≠ 0 then ((S2.write Mw.kTemp (Mw.headB ((Mn.number nm.data.toList Mn.kMan).getD 0))).1, M, (S2.write Mw.kTemp (Mw.headB ((Mn.number nm.data.toList Mn.kMan).getD 0))).2)
      else Mw.sd1 (S2.write Mw.kTemp (Mw.headB ((Mn.number nm.data.toList Mn.kMan).getD 0))).1 M nm.data.toList := HT3.out
    generalize S2.write Mw.kTemp (Mw.headB ((Mn.number nm.data.toList Mn.kMan).getD 0)) = P at *
    obtain ⟨S3, e3⟩ := P
    simp only at HT4 hl4
    have HWR := Lib.hid hwr
    have HS4 := Lib.hid HT4
    clear hwr HT4 hown8 hrow8 hA hhead hf hKl HT3 hb7 hb8 h7 h6
    go_wp2_with fail
    refine HWR.out.mono ?_
    rintro e w9 ⟨rfl, X9, h9⟩
    by_cases q3 : e3 = 0
    case neg =>
      have hne := neq0 q3
      have hh := HS4.out
      rw [if_pos q3] at hh
      have hl := Lib.hid (Left.mk_ hh h9)
      clear hh
      go_wp2
      go_ret
      exact hl.out
    subst q3
    have HS5 : Hid (R = Mw.sd1 S3 M nm.data.toList) := HS4.out.trans (if_neg (by simp))
    have hsd := h9.syncDir
    have hl5 := Sd.syncDir_load S3
    have HT5 : R = if (S3.syncDir).2 ≠ 0 then ((S3.syncDir).1, M, (S3.syncDir).2) else Mw.ren (S3.syncDir).1 M nm.data.toList := HS5.out
    generalize S3.syncDir = P at *
    obtain ⟨S4, e4⟩ := P
    simp only at HT5 hl5
    have HSD := Lib.hid hsd
    have HS6 := Lib.hid HT5
    clear hsd HT5 HS5 HS4 HWR h8
    go_wp2_with fail
    refine HSD.out.mono ?_
    rintro e w10 ⟨rfl, X10, h10⟩
    by_cases q4 : e4 = 0
    case neg =>
      have hne := neq0 q4
      have hh := HS6.out
      rw [if_pos q4] at hh
      have hl := Lib.hid (Left.mk_ hh h10)
      clear hh
      go_wp2
      go_ret
      exact hl.out
    subst q4
    have HS7 : Hid (R = Mw.ren S4 M nm.data.toList) := HS6.out.trans (if_neg (by simp))
    have hrn := h10.rename sTemp sCur (by decide) (by decide) (by omega)
    rw [sTemp_list, sCur_list] at hrn
    unfold sTemp sCur at hrn
    have hl6 := Sd.rename_load S4 Mw.kTemp Mw.kCur
    have HT6 : R = if (S4.rename Mw.kTemp Mw.kCur).2 ≠ 0 then ((S4.rename Mw.kTemp Mw.kCur).1, M, (S4.rename Mw.kTemp Mw.kCur).2) else Mw.fin (S4.rename Mw.kTemp Mw.kCur).1 M nm.data.toList := HS7.out
    generalize S4.rename Mw.kTemp Mw.kCur = P at *
    obtain ⟨S5, e5⟩ := P
    simp only at HT6 hl6
    have HRN := Lib.hid hrn
    have HS8 := Lib.hid HT6
    clear hrn HT6 HS7 HS6 HSD h9
    go_wp2_with fail
    refine HRN.out.mono ?_
    rintro e w11 ⟨rfl, X11, h11⟩
    by_cases q5 : e5 = 0
    case neg =>
      have hne := neq0 q5
      have hh := HS8.out
      rw [if_pos q5] at hh
      have hl := Lib.hid (Left.mk_ hh h11)
      clear hh
      go_wp2
      go_ret
      exact hl.out
    subst q5
    have HS9 : Hid (R = Mw.fin S5 M nm.data.toList) := HS8.out.trans (if_neg (by simp))
    have f1 := h11.man.free 1
    have f8 := h11.man.free 8
    have d1 := h11.man.cell 1
    have d8 := h11.man.cell 8
    simp only [Ms.cells, List.getElem?_cons_zero, List.getElem?_cons_succ] at d1 d8
    have hmk2 : MK ((w11.setCell ⟨m, 1, none⟩ (.string nm)).setCell ⟨m, 8, none⟩ (.int .i64 1)) m X.d { M with name := nm.data.toList, count := 1 } := by
      have h12 := (h11.man.store 1 (.string nm)).store 8 (.int .i64 1)
      unfold MK Ms.cells
      simp only [str_list]
      exact h12
    have h12 := h11.turn (((Chg.refl [m] w11).setCell _ (.inl (by simp))).setCell _ (.inl (by simp))) hmk2
    have hsd2 := h12.syncDir
    have hl7 := Sd.syncDir_load S5
    have HT7 : R = if (S5.syncDir).2 ≠ 0 then ((S5.syncDir).1, { M with name := nm.data.toList, count := 1, broken := true }, (S5.syncDir).2)
      else (Mw.sweep nm.data.toList (S5.syncDir).1.list (S5.syncDir).1, { M with name := nm.data.toList, count := 1 }, 0) := HS9.out
    generalize S5.syncDir = P at *
    obtain ⟨S6, e6⟩ := P
    simp only at HT7 hl7
    have HSD2 := Lib.hid hsd2
    have HS10 := Lib.hid HT7
    clear hsd2 HT7 HS9 HS8 HRN h10 hmk2
    go_wp2_with fail
    refine HSD2.out.mono ?_
    rintro e w13 ⟨rfl, X13, h13⟩
    by_cases q6 : e6 = 0
    case neg =>
      have hne := neq0 q6
      have hh := HS10.out
      rw [if_pos q6] at hh
      have HH := Lib.hid hh
      clear hh d1 d8 f1 f8 h11 h12
      go_wp2_with fail
      refine h13.break_.mono ?_
      rintro e w14 ⟨rfl, h14⟩
      have hl := Lib.hid (Left.mk_ HH.out h14)
      go_wp2
      go_ret
      exact hl.out
    subst q6
    have HS11 : Hid (R = (Mw.sweep nm.data.toList S6.list S6, { M with name := nm.data.toList, count := 1 }, 0)) := HS10.out.trans (if_neg (by simp))
    have hli := h13.acc.list
    have hnml := list_named h13.acc.dm.wf
    have hlen := list_len h13.acc.dm.wf
    obtain ⟨L, hL⟩ : ∃ L, L = S6.list := ⟨_, rfl⟩
    rw [← hL] at hli hnml hlen HS11
    have HNM := Lib.hid hnml
    have HLI := Lib.hid hli
    clear hL hnml hli HS10 HSD2 d1 d8 f1 f8 h11 h12
    go_wp2_with fail
    refine HLI.out.mono ?_
    rintro e w14 ⟨A14, c14, rfl, hown14, hb14⟩
    have h14 := h13.below hb14
    have hcap : L.length ≤ c14 := by
      obtain ⟨A', c', e, h1, _⟩ := own_form hown14
      injection e with _ e2 e3
      omega
    have hA14 : ∀ a, A14 = some a → a.block ∉ [m] ++ X13.foot := fun a ha hm => by
      obtain ⟨A', c', e, _, _, h6⟩ := own_form hown14
      injection e with e _ _
      have h15 := (h6 a (by rw [← e]; exact ha)).1
      rcases List.mem_append.1 hm with h16 | h16
      · have := h13.man.lt
        rw [List.mem_singleton.1 h16] at h15
        omega
      · have := h13.acc.dm.dk.lt _ h16
        omega
    have hrow14 := Row.own hown14
    have h15 := h14.anew
    have HA := Lib.hid hA14
    clear hown14 hb14 HLI hA14 h13
    go_wp2
    go_loopw [104] (fun i wr => ∃ (j : Nat) (Sj : Sd) (Xj : Dw), j ≤ L.length ∧ i = .int .i64 (j : Int) ∧ Mst m X13 w14 Sj { M with name := nm.data.toList, count := 1 } wr Xj ∧ Hid (Mw.sweep nm.data.toList L S6 = Mw.sweep nm.data.toList (L.drop j) Sj) ∧ Sj.load ≤ S6.load + j) (fun i _ => L.length - (intOf i).toNat)
    case atStart => exact ⟨0, S6, X13, Nat.zero_le _, rfl, h15, rfl, Nat.le_refl _⟩
    case round =>
      obtain ⟨j, Sj, Xj, hj, rfl, hMj, HSW, hlj⟩ := hrel
      by_cases hlt : j < L.length
      · have hrow := Row.chg_not hrow14 hMj.acc.c (Nat.le_refl _) HA.out
        obtain ⟨a, hl', rfl, _, hcl⟩ := hrow.enc hlt
        have hsn := HNM.out _ (List.getElem_mem hl')
        have hsl := named_len hsn
        have hdrop : L.drop j = L[j] :: L.drop (j + 1) := List.drop_eq_getElem_cons hl'
        have hst : Mw.sweep nm.data.toList L S6 = Mw.sweep nm.data.toList (L.drop (j + 1)) (if (Mn.number L[j] Mn.kMan).isSome && !(L[j] == nm.data.toList) then (Sj.remove L[j]).1 else Sj) := by
          rw [show Mw.sweep nm.data.toList L S6 = _ from HSW.out, hdrop]
          rfl
        have HST := Lib.hid hst
        have hnum := number_any (str L[j]) sMan (by rw [str_size]; omega) (by decide) wr hMj.acc.dm.env
        rw [list_str, sMan_list, numV_eq] at hnum
        unfold sMan at hnum
        have hrem := fun w2 (hb : Below wr.heap.size wr w2) => (hMj.below hb).remove (str L[j]) (by rw [str_size]; unfold maxLen; omega) (by omega)
        have hrl := Sd.remove_load Sj L[j]
        rw [list_str] at hrem
        have hxd := h15.acc.e
        have hxe := h14.acc.e
        rw [hxe] at hrem
        have HRM := Lib.hid hrem
        have HNU := Lib.hid hnum
        have hbq : ((str L[j]).toList == nm.toList) = (L[j] == nm.data.toList) := by
          rw [ByteArray.toList_eq, ByteArray.toList_eq, list_str]
        have HBQ := Lib.hid hbq
        clear hrem hnum hst hdrop hsn hrow hxd hxe hbq
        generalize L[j] = s at *
        go_wp2_with fail
        refine HNU.out.mono ?_
        rintro e w16 ⟨rfl, hb16⟩
        cases hns : Mn.number s Mn.kMan with
        | none =>
          rw [hns] at HST
          have h17 := hMj.below hb16
          clear hns HNU HRM hcl
          go_wp2
          go_roundw
          case rel => exact ⟨j + 1, Sj, Xj, by omega, by go_num, h17, HST, by omega⟩
          case measure => simp [intOf]; omega
        | some v =>
          rw [hns] at HST
          cases hq : (s == nm.data.toList) with
          | true =>
            have q1 : ((str s).toList == nm.toList) = true := by rw [HBQ.out, hq]
            rw [hq] at HST
            have h17 := hMj.below hb16
            clear hns HNU HRM hcl hq
            go_wp2
            go_roundw
            case rel => exact ⟨j + 1, Sj, Xj, by omega, by go_num, h17, HST, by omega⟩
            case measure => simp [intOf]; omega
          | false =>
            have q1 : ((str s).toList == nm.toList) = false := by rw [HBQ.out, hq]
            rw [hq] at HST
            have hrm := HRM.out w16 hb16
            have hst2 : Mw.sweep nm.data.toList L S6 = Mw.sweep nm.data.toList (L.drop (j + 1)) (Sj.remove s).1 := HST.out
            generalize Sj.remove s = P at *
            have HST2 := Lib.hid hst2
            have HRM2 := Lib.hid hrm
            clear hns HNU HRM hcl hq hrm hst2 HST
            go_wp2_with fail
            refine HRM2.out.mono ?_
            rintro e w17 ⟨rfl, X17, h17⟩
            go_wp2
            go_roundw
            case rel => exact ⟨j + 1, P.1, X17, by omega, by go_num, h17, HST2, by omega⟩
            case measure => simp [intOf]; omega
      · have e1 : L.drop j = [] := List.drop_eq_nil_of_le (by omega)
        have hR2 : R = (Sj, { M with name := nm.data.toList, count := 1 }, 0) := by
          have := HSW.out
          rw [e1] at this
          rw [show R = _ from HS11.out, this]
          rfl
        have hl := Lib.hid (Left.mk_ hR2 (h14.trans hMj))
        clear e1 hR2 hrow14
        go_wp2
        go_ret
        exact hl.out
end Go.Proofs.YthepokgkfaocmaaGreatDoor

/-
  The walks of a manifest's Name, Count, Broken, View, Save.
-/
namespace Go.Proofs.YthepokgkfaocmaaGreatDoor
open Go Go.RowKit Go.Shelf
variable {m : Nat} {X X1 : Dw} {w w1 w2 : World} {S S1 : Sd} {M M1 : Ms}

theorem mname_any (xd : Nat) (h : MK w m xd M) : Calls Tryz.prog 14 #[.pointer (some ⟨m, 0, none⟩)] w fun e w' => e = .returned (.string (str M.name)) ∧ w = w' := by
  have c1 := h.cell 1
  simp only [Ms.cells, List.getElem?_cons_zero, List.getElem?_cons_succ] at c1
  go_enter Tryz.func14, Tryz.ntmps14
  go_wp2
  go_ret
  exact ⟨rfl, rfl⟩
theorem mcount_any (xd : Nat) (h : MK w m xd M) : Calls Tryz.prog 26 #[.pointer (some ⟨m, 0, none⟩)] w fun e w' => e = .returned (.int .i64 (M.count : Int)) ∧ w = w' := by
  have c1 := h.cell 8
  simp only [Ms.cells, List.getElem?_cons_zero, List.getElem?_cons_succ] at c1
  go_enter Tryz.func26, Tryz.ntmps26
  go_wp2
  go_ret
  exact ⟨rfl, rfl⟩
theorem mbroken_any (xd : Nat) (h : MK w m xd M) : Calls Tryz.prog 30 #[.pointer (some ⟨m, 0, none⟩)] w fun e w' => e = .returned (.bool M.broken) ∧ w = w' := by
  have c1 := h.cell 12
  simp only [Ms.cells, List.getElem?_cons_zero, List.getElem?_cons_succ] at c1
  go_enter Tryz.func30, Tryz.ntmps30
  go_wp2
  go_ret
  exact ⟨rfl, rfl⟩
set_option maxRecDepth 100000 in
theorem mview_any (xd : Nat) (h : MK w m xd M) : Calls Tryz.prog 20 #[.pointer (some ⟨m, 0, none⟩)] w fun e w' => e = .returned M.v.vw ∧ Below w.heap.size w w' := by
  have hlt := h.lt
  have h1 : MK (w.alloc (.cells #[.int .i64 0, .slice none 0 0, .int .u64 0, .int .u64 0, .int .u64 0, .int .u64 0] 31)) m xd M := BoxO.alloc h _
  have c2 := h1.cell 2
  have c3 := h1.cell 3
  have c4 := h1.cell 4
  have c5 := h1.cell 5
  have c6 := h1.cell 6
  have c7 := h1.cell 7
  have hbx := BoxO.new w #[.int .i64 0, .slice none 0 0, .int .u64 0, .int .u64 0, .int .u64 0, .int .u64 0] 31
  simp only [Ms.cells, List.getElem?_cons_zero, List.getElem?_cons_succ] at c2 c3 c4 c5 c6 c7
  have how := own_bare (M.v.g : Int) (M.v.f : Int) (M.v.c : Int) (M.v.a : Int) (M.v.l : Int) (w.alloc (.cells #[.int .i64 0, .slice none 0 0, .int .u64 0, .int .u64 0, .int .u64 0, .int .u64 0] 31))
  go_enter Tryz.func20, Tryz.ntmps20
  go_wp2_with fail
  unfold vwV at how
  refine how.mono ?_
  rintro e w1 ⟨rfl, hb1⟩
  have hb0 : Below w.heap.size w (w.alloc (.cells #[.int .i64 0, .slice none 0 0, .int .u64 0, .int .u64 0, .int .u64 0, .int .u64 0] 31)) := (Below.refl _ _).alloc (Nat.le_refl _) _
  have hb2 := later_ hb0 hb1
  have hbx1 := hbx.below hb1
  have hlt1 := hbx1.lt
  have f0 := hbx1.free 0
  have f1 := hbx1.free 1
  have f2 := hbx1.free 2
  have f3 := hbx1.free 3
  have f4 := hbx1.free 4
  have f5 := hbx1.free 5
  have g0 := hbx1.cell 0
  have g1 := hbx1.cell 1
  have g2 := hbx1.cell 2
  have g3 := hbx1.cell 3
  have g4 := hbx1.cell 4
  have g5 := hbx1.cell 5
  simp only [List.getElem?_cons_zero, List.getElem?_cons_succ] at g0 g1 g2 g3 g4 g5
  have hst := (((((hb2.setCell (p := ⟨w.heap.size, 0, none⟩) (Nat.le_refl _) (.int .i64 (M.v.g : Int))).setCell (p := ⟨w.heap.size, 1, none⟩) (Nat.le_refl _) (.slice none 0 0)).setCell (p := ⟨w.heap.size, 2, none⟩) (Nat.le_refl _) (.int .u64 (M.v.f : Int))).setCell (p := ⟨w.heap.size, 3, none⟩) (Nat.le_refl _) (.int .u64 (M.v.c : Int))).setCell (p := ⟨w.heap.size, 4, none⟩) (Nat.le_refl _) (.int .u64 (M.v.a : Int))).setCell (p := ⟨w.heap.size, 5, none⟩) (Nat.le_refl _) (.int .u64 (M.v.l : Int))
  have HS := Lib.hid hst
  clear hst hbx1 hbx hb1 hb2 hb0 how h1 c2 c3 c4 c5 c6 c7
  go_wp2
  exact bodyPost_ret (v := M.v.vw) (by simp [results, Tryz.results20, go_sem, g0, g1, g2, g3, g4, g5, Bv.vw, vwV]) rfl ⟨rfl, HS.out⟩

set_option maxRecDepth 100000 in
set_option maxHeartbeats 1000000 in
theorem save_any (e : Bv) (he : e.may = true) (hok : (M.v.app e).ok = true) (hc0 : M.count ≤ 1000000000) (hnl : M.name.length ≤ 1000) (h0 : Mst m X w S M w X) :
    Calls Tryz.prog 15 #[.pointer (some ⟨m, 0, none⟩), e.ed] w (Left m X w (Mw.save S M e)) := by
  obtain ⟨R, hR⟩ : ∃ R, R = Mw.save S M e := ⟨_, rfl⟩
  rw [← hR]
  have hbe : Below w.heap.size w (w.alloc (.cells #[.slice none 0 0, .slice none 0 0, .int .i64 (e.g : Int), .int .u64 (e.f : Int), .int .u64 (e.c : Int), .int .u64 (e.a : Int), .int .u64 (e.l : Int)] 39)) := (Below.refl _ _).alloc (Nat.le_refl _) _
  have h1 := h0.below hbe
  have hbx := BoxO.new w #[.slice none 0 0, .slice none 0 0, .int .i64 (e.g : Int), .int .u64 (e.f : Int), .int .u64 (e.c : Int), .int .u64 (e.a : Int), .int .u64 (e.l : Int)] 39
  have hlt := h0.man.lt
  generalize hV : w.alloc (.cells #[.slice none 0 0, .slice none 0 0, .int .i64 (e.g : Int), .int .u64 (e.f : Int), .int .u64 (e.c : Int), .int .u64 (e.a : Int), .int .u64 (e.l : Int)] 39) = V at *
  have b12 := h1.man.cell 12
  have y0 := hbx.cell 0
  have y1 := hbx.cell 1
  have y2 := hbx.cell 2
  have y3 := hbx.cell 3
  have y4 := hbx.cell 4
  have y5 := hbx.cell 5
  have y6 := hbx.cell 6
  simp only [Ms.cells, List.getElem?_cons_zero, List.getElem?_cons_succ] at b12 y0 y1 y2 y3 y4 y5 y6
  obtain ⟨he2, he3⟩ := Bv.may_iff.1 he
  cases hbr : M.broken with
  | true =>
    have hh : R = (S, M, 14) := by rw [hR, Mw.save, if_pos hbr]
    have hl := Lib.hid (Left.mk_ hh h1)
    rw [hbr] at b12
    unfold Bv.ed edV
    clear hR hh hbr
    go_enter Tryz.func15, Tryz.ntmps15
    go_wp2
    go_ret
    exact hl.out
  | false =>
    have hr64 : e.f < 18446744073709551616 ∧ e.c < 18446744073709551616 ∧ e.a < 18446744073709551616 ∧ e.l < 18446744073709551616 := by
      simp [bigs] at he3
      omega
    have hput := eput_bare none 0 0 [] e.g e.f e.c e.a e.l V he2 he3 (by omega) (by omega) (by unfold maxLen; omega) Row.nil_ hr64
    have hrec : ([] : List UInt8) ++ Ed.rec_ ⟨[], [], e.g, e.f, e.c, e.a, e.l⟩ = Mw.recB e := rfl
    rw [hrec] at hput
    have HT : R = if (S.append M.name (Mw.recB e)).2 ≠ 0 then ((S.append M.name (Mw.recB e)).1, M, (S.append M.name (Mw.recB e)).2)
      else if ((S.append M.name (Mw.recB e)).1.sync M.name).2 ≠ 0 then (((S.append M.name (Mw.recB e)).1.sync M.name).1, { M with count := M.count + 1, v := M.v.app e, broken := true }, ((S.append M.name (Mw.recB e)).1.sync M.name).2)
      else (((S.append M.name (Mw.recB e)).1.sync M.name).1, { M with count := M.count + 1, v := M.v.app e }, 0) := by
      rw [hR, Mw.save, if_neg (by simp [hbr])]
    rw [hbr] at b12
    have HTT := Lib.hid HT
    unfold Bv.ed
    unfold edV at hput ⊢
    clear hR HT hbr hrec
    go_enter Tryz.func15, Tryz.ntmps15
    go_wp2_with fail
    refine hput.mono ?_
    rintro e1 w2 ⟨A, K, c, rfl, hown, hKc, hcm, hb2⟩
    have h2 := h1.below hb2
    have hbx2 := hbx.below hb2
    have y0 := hbx2.cell 0
    have y1 := hbx2.cell 1
    have y2 := hbx2.cell 2
    have y3 := hbx2.cell 3
    have y4 := hbx2.cell 4
    have y5 := hbx2.cell 5
    have y6 := hbx2.cell 6
    have z2 := h2.man.cell 2
    have z3 := h2.man.cell 3
    have z4 := h2.man.cell 4
    have z5 := h2.man.cell 5
    have z6 := h2.man.cell 6
    have z7 := h2.man.cell 7
    simp only [Ms.cells, List.getElem?_cons_zero, List.getElem?_cons_succ] at y0 y1 y2 y3 y4 y5 y6 z2 z3 z4 z5 z6 z7
    have hKC : ∀ w' : World, Below w2.heap.size w2 w' → w'.cell? ⟨m, 2, none⟩ = some (.int .i64 (M.v.g : Int)) ∧ w'.cell? ⟨m, 3, none⟩ = some (.slice none 0 0) ∧ w'.cell? ⟨m, 4, none⟩ = some (.int .u64 (M.v.f : Int)) ∧ w'.cell? ⟨m, 5, none⟩ = some (.int .u64 (M.v.c : Int)) ∧ w'.cell? ⟨m, 6, none⟩ = some (.int .u64 (M.v.a : Int)) ∧ w'.cell? ⟨m, 7, none⟩ = some (.int .u64 (M.v.l : Int)) ∧
        w'.cell? ⟨w.heap.size, 0, none⟩ = some (.slice none 0 0) ∧ w'.cell? ⟨w.heap.size, 1, none⟩ = some (.slice none 0 0) ∧ w'.cell? ⟨w.heap.size, 2, none⟩ = some (.int .i64 (e.g : Int)) ∧ w'.cell? ⟨w.heap.size, 3, none⟩ = some (.int .u64 (e.f : Int)) ∧ w'.cell? ⟨w.heap.size, 4, none⟩ = some (.int .u64 (e.c : Int)) ∧ w'.cell? ⟨w.heap.size, 5, none⟩ = some (.int .u64 (e.a : Int)) ∧ w'.cell? ⟨w.heap.size, 6, none⟩ = some (.int .u64 (e.l : Int)) := fun w' hb => by
      have hm2 := h2.man.lt
      have he2 := hbx2.lt
      refine ⟨?_, ?_, ?_, ?_, ?_, ?_, ?_, ?_, ?_, ?_, ?_, ?_, ?_⟩
      all_goals (rw [hb.cell (by simpa using (by assumption))]; assumption)
    have KC := Lib.hid hKC
    have hKA := fun W => bv_apply M.v e W hok
    unfold Bv.vw vwV Bv.ed edV at hKA
    have KA := Lib.hid hKA
    clear hKC hKA z2 z3 z4 z5 z6 z7 y0 y1 y2 y3 y4 y5 y6
    generalize hve : M.v.app e = ve at *
    clear hve
    clear hput b12 hb2
    go_wp2
    refine wp_region_held_drew (S := fun w' => Below w2.heap.size w2 w') rfl (below_drew (Below.refl _ _)) (fun hSw => ?_)
    refine wpAnyH_take (i := 0) (v := ?v0) rfl (by kernel_rfl) (by kernel_rfl) (by kernel_rfl) (fun _ _ _ h => h) (Or.inl ⟨by rfl, ?h0⟩) hSw ?k0
    case h0 => (intro w hSw; (obtain ⟨z2, z3, z4, z5, z6, z7, y0, y1, y2, y3, y4, y5, y6⟩ := KC.out w hSw); go_simp; try (with_reducible rfl))
    go_simp
    refine wpAnyH_take (i := 1) (v := ?v1) rfl (by kernel_rfl) (by kernel_rfl) (by kernel_rfl) (fun _ _ _ h => h) (Or.inl ⟨by rfl, ?h1⟩) hSw ?k1
    case h1 => (intro w hSw; (obtain ⟨z2, z3, z4, z5, z6, z7, y0, y1, y2, y3, y4, y5, y6⟩ := KC.out w hSw); go_simp; try (with_reducible rfl))
    go_simp
    refine wpAnyH_take (i := 2) (v := ?v2) rfl (by kernel_rfl) (by kernel_rfl) (by kernel_rfl) (fun _ _ _ h => h) (Or.inl ⟨by rfl, ?h2⟩) hSw ?k2
    case h2 => (intro w hSw; (obtain ⟨z2, z3, z4, z5, z6, z7, y0, y1, y2, y3, y4, y5, y6⟩ := KC.out w hSw); go_simp; try (with_reducible rfl))
    go_simp
    refine wpAnyH_take (i := 3) (v := ?v3) rfl (by kernel_rfl) (by kernel_rfl) (by kernel_rfl) (fun _ _ _ h => h) (Or.inl ⟨by rfl, ?h3⟩) hSw ?k3
    case h3 => (intro w hSw; (obtain ⟨z2, z3, z4, z5, z6, z7, y0, y1, y2, y3, y4, y5, y6⟩ := KC.out w hSw); go_simp; try (with_reducible rfl))
    go_simp
    refine wpAnyH_take (i := 4) (v := ?v4) rfl (by kernel_rfl) (by kernel_rfl) (by kernel_rfl) (fun _ _ _ h => h) (Or.inl ⟨by rfl, ?h4⟩) hSw ?k4
    case h4 => (intro w hSw; (obtain ⟨z2, z3, z4, z5, z6, z7, y0, y1, y2, y3, y4, y5, y6⟩ := KC.out w hSw); go_simp; try (with_reducible rfl))
    go_simp
    refine wpAnyH_ready (rs := [5, 9]) (by kernel_rfl) (by simp) ?_
    refine AllReadyH.cons rfl (fun K hK => ?_) (AllReadyH.cons rfl (fun K hK => ?_) AllReadyH.nil)
    case' refine_1 =>
      go_simp
      refine (KA.out _).mono ?_
      rintro e5 w5 ⟨rfl, hb5⟩
      go_simp
      refine hK.out _ _ (hSw.trans (hb5.mono hSw.size)) (fun hSn => ?_)
      clear hK K hSw
      have hSw := hSn
      clear hSn
      go_simp
      refine wpAnyH_take (i := 6) (v := ?va6) rfl (by kernel_rfl) (by kernel_rfl) (by kernel_rfl) (fun _ _ _ h => h) (Or.inl ⟨by rfl, ?ha6⟩) hSw ?ka6
      case ha6 => (intro w hSw; (obtain ⟨z2, z3, z4, z5, z6, z7, y0, y1, y2, y3, y4, y5, y6⟩ := KC.out w hSw); go_simp; try (with_reducible rfl))
      go_simp
      refine wpAnyH_take (i := 7) (v := ?va7) rfl (by kernel_rfl) (by kernel_rfl) (by kernel_rfl) (fun _ _ _ h => h) (Or.inl ⟨by rfl, ?ha7⟩) hSw ?ka7
      case ha7 => (intro w hSw; (obtain ⟨z2, z3, z4, z5, z6, z7, y0, y1, y2, y3, y4, y5, y6⟩ := KC.out w hSw); go_simp; try (with_reducible rfl))
      go_simp
      refine wpAnyH_take (i := 8) (v := ?va8) rfl (by kernel_rfl) (by kernel_rfl) (by kernel_rfl) (fun _ _ _ h => h) (Or.inl ⟨by rfl, ?ha8⟩) hSw ?ka8
      case ha8 => (intro w hSw; (obtain ⟨z2, z3, z4, z5, z6, z7, y0, y1, y2, y3, y4, y5, y6⟩ := KC.out w hSw); go_simp; try (with_reducible rfl))
      go_simp
      have hS5 := Lib.hid hSw
      refine wpAnyH_ready (rs := [9]) (by kernel_rfl) (by simp) ?_
      refine AllReadyH.cons rfl (fun K hK => ?_) AllReadyH.nil
      go_simp
      refine hK.out _ _ (hSw.alloc hSw.size _) (fun hSn => ?_)
      clear hK K hSw
      have hSw := hSn
      clear hSn
      go_simp
      refine wpAnyH_ready (rs := [10]) (by kernel_rfl) (by simp) ?_
      refine AllReadyH.cons rfl (fun K hK => ?_) AllReadyH.nil
      go_simp
      refine hK.out _ _ (hS5.out.alloc hS5.out.size _) (fun hSn => ?_)
      clear hK K hSw
      have hSw := hSn
      clear hSn
      go_simp
      refine wpAnyH_ready (rs := [11]) (by kernel_rfl) (by simp) ?_
      refine AllReadyH.cons rfl (fun K hK => ?_) AllReadyH.nil
      go_simp
      refine hK.out _ _ hSw (fun hSn => ?_)
      clear hK K hSw
      have hSw := hSn
      clear hSn
      go_simp
      refine wpAnyH_done (by kernel_rfl) ?_ _
      have hbv : BoxO _ 31 w5.heap.size ve.cells := BoxO.new w5 #[.int .i64 (ve.g : Int), .slice none 0 0, .int .u64 (ve.f : Int), .int .u64 (ve.c : Int), .int .u64 (ve.a : Int), .int .u64 (ve.l : Int)] 31
      have hgb : w2.heap.size ≤ w5.heap.size := hS5.out.size
      generalize w5.heap.size = gb at *
      generalize w5.alloc (.cells #[.int .i64 (ve.g : Int), .slice none 0 0, .int .u64 (ve.f : Int), .int .u64 (ve.c : Int), .int .u64 (ve.a : Int), .int .u64 (ve.l : Int)] 31) = W at *
      clear hS5 hb5 w5
    case' refine_2 =>
      go_simp
      refine hK.out _ _ (hSw.alloc hSw.size _) (fun hSn => ?_)
      clear hK K hSw
      have hSw := hSn
      clear hSn
      go_simp
      refine wpAnyH_ready (rs := [5]) (by kernel_rfl) (by simp) ?_
      refine AllReadyH.cons rfl (fun K hK => ?_) AllReadyH.nil
      have hbz : BoxO (w2.drew.alloc (.cells #[.int .i64 0, .slice none 0 0, .int .u64 0, .int .u64 0, .int .u64 0, .int .u64 0] 31)) 31 w2.heap.size [.int .i64 0, .slice none 0 0, .int .u64 0, .int .u64 0, .int .u64 0, .int .u64 0] := BoxO.new w2.drew #[.int .i64 0, .slice none 0 0, .int .u64 0, .int .u64 0, .int .u64 0, .int .u64 0] 31
      go_simp
      refine (KA.out _).mono ?_
      rintro e5 w5 ⟨rfl, hb5⟩
      have hbz5 := hbz.below hb5
      go_simp
      refine hK.out _ _ (hSw.trans (hb5.mono hSw.size)) (fun hSn => ?_)
      clear hK K hSw
      have hSw := hSn
      clear hSn
      go_simp
      refine wpAnyH_take (i := 6) (v := ?vb6) rfl (by kernel_rfl) (by kernel_rfl) (by kernel_rfl) (fun _ _ _ h => h) (Or.inl ⟨by rfl, ?hb6⟩) hSw ?kb6
      case hb6 => (intro w hSw; (obtain ⟨z2, z3, z4, z5, z6, z7, y0, y1, y2, y3, y4, y5, y6⟩ := KC.out w hSw); go_simp; try (with_reducible rfl))
      go_simp
      refine wpAnyH_take (i := 7) (v := ?vb7) rfl (by kernel_rfl) (by kernel_rfl) (by kernel_rfl) (fun _ _ _ h => h) (Or.inl ⟨by rfl, ?hb7⟩) hSw ?kb7
      case hb7 => (intro w hSw; (obtain ⟨z2, z3, z4, z5, z6, z7, y0, y1, y2, y3, y4, y5, y6⟩ := KC.out w hSw); go_simp; try (with_reducible rfl))
      go_simp
      refine wpAnyH_take (i := 8) (v := ?vb8) rfl (by kernel_rfl) (by kernel_rfl) (by kernel_rfl) (fun _ _ _ h => h) (Or.inl ⟨by rfl, ?hb8⟩) hSw ?kb8
      case hb8 => (intro w hSw; (obtain ⟨z2, z3, z4, z5, z6, z7, y0, y1, y2, y3, y4, y5, y6⟩ := KC.out w hSw); go_simp; try (with_reducible rfl))
      go_simp
      have g0 := hbz5.cell 0
      have g1 := hbz5.cell 1
      have g2 := hbz5.cell 2
      have g3 := hbz5.cell 3
      have g4 := hbz5.cell 4
      have g5 := hbz5.cell 5
      have f0 := hbz5.free 0
      have f1 := hbz5.free 1
      have f2 := hbz5.free 2
      have f3 := hbz5.free 3
      have f4 := hbz5.free 4
      have f5 := hbz5.free 5
      simp only [List.getElem?_cons_zero, List.getElem?_cons_succ] at g0 g1 g2 g3 g4 g5
      refine wpAnyH_ready (rs := [10]) (by kernel_rfl) (by simp) ?_
      refine AllReadyH.cons rfl (fun K hK => ?_) AllReadyH.nil
      go_simp
      have hbv := ((((((hbz5.store 0 (.int .i64 (ve.g : Int))).store 1 (.slice none 0 0)).store 2 (.int .u64 (ve.f : Int))).store 3 (.int .u64 (ve.c : Int))).store 4 (.int .u64 (ve.a : Int))).store 5 (.int .u64 (ve.l : Int)))
      refine hK.out _ _ ((((((hSw.setCell (p := ⟨w2.heap.size, 0, none⟩) (Nat.le_refl _) _).setCell (p := ⟨w2.heap.size, 1, none⟩) (Nat.le_refl _) _).setCell (p := ⟨w2.heap.size, 2, none⟩) (Nat.le_refl _) _).setCell (p := ⟨w2.heap.size, 3, none⟩) (Nat.le_refl _) _).setCell (p := ⟨w2.heap.size, 4, none⟩) (Nat.le_refl _) _).setCell (p := ⟨w2.heap.size, 5, none⟩) (Nat.le_refl _) _) (fun hSn => ?_)
      clear g0 g1 g2 g3 g4 g5 f0 f1 f2 f3 f4 f5
      clear hK K hSw
      have hSw := hSn
      clear hSn
      go_simp
      refine wpAnyH_ready (rs := [11]) (by kernel_rfl) (by simp) ?_
      refine AllReadyH.cons rfl (fun K hK => ?_) AllReadyH.nil
      go_simp
      refine hK.out _ _ hSw (fun hSn => ?_)
      clear hK K hSw
      have hSw := hSn
      clear hSn
      go_simp
      refine wpAnyH_done (by kernel_rfl) ?_ _
      have hbv : BoxO _ 31 w2.heap.size ve.cells := hbv
      obtain ⟨gb, hgb0, hgb⟩ : ∃ g, g = w2.heap.size ∧ w2.heap.size ≤ g := ⟨_, rfl, Nat.le_refl _⟩
      generalize ((((((w5.setCell ⟨w2.heap.size, 0, none⟩ (.int .i64 (ve.g : Int))).setCell ⟨w2.heap.size, 1, none⟩ (.slice none 0 0)).setCell ⟨w2.heap.size, 2, none⟩ (.int .u64 (ve.f : Int))).setCell ⟨w2.heap.size, 3, none⟩ (.int .u64 (ve.c : Int))).setCell ⟨w2.heap.size, 4, none⟩ (.int .u64 (ve.a : Int))).setCell ⟨w2.heap.size, 5, none⟩ (.int .u64 (ve.l : Int))) = W at *
      clear hbz5 hbz hb5 w5
      rw [← hgb0] at hbv ⊢
      clear hgb0
    all_goals
      have h3 := h2.below hSw
      have h4 := (h3.below (below_drew (Below.refl _ _))).anew
      have hbx5 : BoxO W.drew 31 gb ve.cells := hbv
      have hrow := Lib.hid ((((Row.own hown).below hSw).drew).arg (B := w2.heap.size) hSw.size)
      have hA : ∀ a, A = some a → a.block ∉ X.foot := fun a ha hm => by
        obtain ⟨A', c', e', _, _, h6⟩ := own_form hown
        injection e' with e' _ _
        have h7 := (h6 a (by rw [← e']; exact ha)).1
        have h8 := h1.acc.dm.dk.lt _ hm
        omega
      have hKl : K ≤ 1099511627776 := by
        have e1 := (Row.own hown).btlen
        have := recB_len e
        omega
      have hmgb : ¬ m = gb := by
        have := h2.man.lt
        omega
      have hgbX : gb ∉ [m] ++ X.foot := fun hm => by
        rcases List.mem_append.1 hm with h5 | h5
        · exact hmgb (List.mem_singleton.1 h5).symm
        · have := h2.acc.dm.dk.lt _ h5
          omega
      have hap := h4.append (str M.name) (by rw [str_size]; unfold maxLen; omega) A K c (Mw.recB e) hKl hrow.out hA
      rw [list_str] at hap
      have HAP := Lib.hid hap
      have d0 := h3.man.cell 0
      have d1 := h3.man.cell 1
      simp only [Ms.cells, List.getElem?_cons_zero, List.getElem?_cons_succ] at d0 d1
      have HSW := Lib.hid hSw
      have HB5 := Lib.hid hbx5
      have HGX := Lib.hid hgbX
      clear hap hown hA hKl hrow hbx hbx2 y0 y1 y2 y3 y4 y5 y6 hSw hbv hbe h0 h1 hbx5 hgbX
      generalize S.append M.name (Mw.recB e) = P at *
      obtain ⟨S1, e1⟩ := P
      simp only at HTT
      go_wp2
      go_still_tail 9, (by kernel_rfl)
      change wpList _ _ _ _ _ (World.drew W)
      go_wp2_with fail
      refine HAP.out.mono ?_
      rintro e6 w6 ⟨rfl, X6, h6⟩
      by_cases q1 : e1 = 0
      case neg =>
        have hne := neq0 q1
        have hh := HTT.out
        rw [if_pos q1] at hh
        have hl := Lib.hid (Left.mk_ hh ((h3.below (below_drew (Below.refl _ _))).trans h6))
        clear hh
        go_wp2
        go_ret
        exact hl.out
      subst q1
      have HT2 : Hid (R = if (S1.sync M.name).2 ≠ 0 then ((S1.sync M.name).1, { M with count := M.count + 1, v := ve, broken := true }, (S1.sync M.name).2) else ((S1.sync M.name).1, { M with count := M.count + 1, v := ve }, 0)) := HTT.out.trans (if_neg (by simp))
      have hbx6 := HB5.out.chg h6.acc.c HGX.out
      have x0 := hbx6.cell 0
      have x1 := hbx6.cell 1
      have x2 := hbx6.cell 2
      have x3 := hbx6.cell 3
      have x4 := hbx6.cell 4
      have x5 := hbx6.cell 5
      have d2 := h6.man.cell 2
      have d3 := h6.man.cell 3
      have d4 := h6.man.cell 4
      have d5 := h6.man.cell 5
      have d6 := h6.man.cell 6
      have d7 := h6.man.cell 7
      have d8 := h6.man.cell 8
      have f2 := h6.man.free 2
      have f3 := h6.man.free 3
      have f4 := h6.man.free 4
      have f5 := h6.man.free 5
      have f6 := h6.man.free 6
      have f7 := h6.man.free 7
      have f8 := h6.man.free 8
      simp only [Ms.cells, Bv.cells, List.getElem?_cons_zero, List.getElem?_cons_succ] at x0 x1 x2 x3 x4 x5 d2 d3 d4 d5 d6 d7 d8
      have hmk : MK (((((((w6.setCell ⟨m, 8, none⟩ (.int .i64 ((M.count : Int) + 1))).setCell ⟨m, 2, none⟩ (.int .i64 (ve.g : Int))).setCell ⟨m, 3, none⟩ (.slice none 0 0)).setCell ⟨m, 4, none⟩ (.int .u64 (ve.f : Int))).setCell ⟨m, 5, none⟩ (.int .u64 (ve.c : Int))).setCell ⟨m, 6, none⟩ (.int .u64 (ve.a : Int))).setCell ⟨m, 7, none⟩ (.int .u64 (ve.l : Int))) m X.d { M with count := M.count + 1, v := ve } :=
        (((((((h6.man.store 8 (.int .i64 ((M.count : Int) + 1))).store 2 (.int .i64 (ve.g : Int))).store 3 (.slice none 0 0)).store 4 (.int .u64 (ve.f : Int))).store 5 (.int .u64 (ve.c : Int))).store 6 (.int .u64 (ve.a : Int))).store 7 (.int .u64 (ve.l : Int)))
      have hcm6 : Chg [m] w6 (((((((w6.setCell ⟨m, 8, none⟩ (.int .i64 ((M.count : Int) + 1))).setCell ⟨m, 2, none⟩ (.int .i64 (ve.g : Int))).setCell ⟨m, 3, none⟩ (.slice none 0 0)).setCell ⟨m, 4, none⟩ (.int .u64 (ve.f : Int))).setCell ⟨m, 5, none⟩ (.int .u64 (ve.c : Int))).setCell ⟨m, 6, none⟩ (.int .u64 (ve.a : Int))).setCell ⟨m, 7, none⟩ (.int .u64 (ve.l : Int))) :=
        (((((((Chg.refl [m] w6).setCell _ (.inl (by simp))).setCell _ (.inl (by simp))).setCell _ (.inl (by simp))).setCell _ (.inl (by simp))).setCell _ (.inl (by simp))).setCell _ (.inl (by simp))).setCell _ (.inl (by simp))
      have h7 := Lib.hid (((h3.below (below_drew (Below.refl _ _))).trans h6).turn hcm6 hmk)
      clear hmk hcm6 hbx6 h6 HTT HAP h4 h3 HB5 HGX
      have D0 := h7.out.man.cell 0
      have D1 := h7.out.man.cell 1
      simp only [Ms.cells, List.getElem?_cons_zero, List.getElem?_cons_succ] at D0 D1
      go_wp2
      generalize (((((((w6.setCell ⟨m, 8, none⟩ (.int .i64 ((M.count : Int) + 1))).setCell ⟨m, 2, none⟩ (.int .i64 (ve.g : Int))).setCell ⟨m, 3, none⟩ (.slice none 0 0)).setCell ⟨m, 4, none⟩ (.int .u64 (ve.f : Int))).setCell ⟨m, 5, none⟩ (.int .u64 (ve.c : Int))).setCell ⟨m, 6, none⟩ (.int .u64 (ve.a : Int))).setCell ⟨m, 7, none⟩ (.int .u64 (ve.l : Int))) = V7 at *
      clear x0 x1 x2 x3 x4 x5 d2 d3 d4 d5 d6 d7 d8 f2 f3 f4 f5 f6 f7 f8 d0 d1
      have h8 := h7.out.below (below_drew (Below.refl _ _))
      have hsy := h8.sync (str M.name) (by rw [str_size]; unfold maxLen; omega)
      rw [list_str] at hsy
      have HSY := Lib.hid hsy
      clear hsy h8
      generalize S1.sync M.name = P at *
      obtain ⟨S2, e2⟩ := P
      go_still_tail 8, (by kernel_rfl)
      change wpList _ _ _ _ _ (World.drew V7)
      go_wp2_with fail
      refine HSY.out.mono ?_
      rintro e9 w9 ⟨rfl, X9, h9⟩
      by_cases q2 : e2 = 0
      case neg =>
        have hne := neq0 q2
        have hh : R = (S2, { M with count := M.count + 1, v := ve, broken := true }, e2) := HT2.out.trans (if_pos q2)
        have HH := Lib.hid hh
        clear hh
        go_wp2_with fail
        refine h9.break_.mono ?_
        rintro e10 w10 ⟨rfl, h10⟩
        have hl := Lib.hid (Left.mk_ HH.out h10)
        go_wp2
        go_ret
        exact hl.out
      subst q2
      have hl := Lib.hid (Left.mk_ (HT2.out.trans (if_neg (by simp))) h9)
      go_wp2
      go_ret
      exact hl.out
end Go.Proofs.YthepokgkfaocmaaGreatDoor

/-
  The walks of man.Rewrite, Look, Open, New, where nothing is amiss.
-/
namespace Go.Proofs.YthepokgkfaocmaaGreatDoor
open Go Go.RowKit Go.Shelf
variable {m : Nat} {X X1 : Dw} {w w1 w2 : World} {S S1 : Sd} {M M1 : Ms}

theorem take_head (n : Nat) : Fr.take (Mw.headB n) 0 = (8, Pn.put n, (Mw.headB n).length, 0) := by
  have h := Fr.take_put [] 8 (Pn.put n) [] (by omega) (by omega) (by have := Pn.put_len n; omega)
  simpa [Mw.headB] using h
theorem take_num (n : Nat) (hn : n ≤ 1073741824) : Pn.take (Pn.put n) = (n, (Pn.put n).length, 0) := by
  have h := Pn.take_put n [] (by omega)
  simpa using h

set_option maxRecDepth 100000 in
set_option maxHeartbeats 1000000 in
theorem look_any (n : Nat) (hn1 : 1 ≤ n) (hn2 : n ≤ 1073741824) (t : List UInt8) (es : List Bv) (stop er : Nat) (hc : S.read Mw.kCur = (Mw.headB n, 0)) (ht : S.read (Mn.name Mn.kMan n) = (t, 0)) (htl : t.length ≤ 1000000)
    (hs : Fr.split t = (List.replicate es.length 6, es.map Bv.bytes, stop, er)) (her : er = 0 ∨ er = 4) (hes : 0 < es.length) (hel : es.length ≤ 1000000) (hmay : ∀ e ∈ es, e.may = true) (hok : ∀ k, k < es.length → (Bv.run (es.take (k + 1))).ok = true) (hst : stop ≤ t.length) (h : Dm w X S) :
    Calls Tryz.prog 50 #[.pointer (some ⟨X.d, 0, none⟩)] w fun e w' => ∃ m, e = .returned (.tuple #[.pointer (some ⟨m, 0, none⟩), .bool (decide (stop < t.length) || decide (30 < es.length)), .int .i64 0]) ∧ MK w' m X.d ⟨Mn.name Mn.kMan n, Bv.run es, es.length, false⟩ ∧ Below w.heap.size w w' ∧ w.heap.size ≤ m := by
  obtain ⟨nm, hNM⟩ : ∃ nm, nm = Mn.name Mn.kMan (n : Int) := ⟨_, rfl⟩
  obtain ⟨rv, hRV⟩ : ∃ rv, rv = Bv.run es := ⟨_, rfl⟩
  rw [← hNM, ← hRV]
  have HNM := Lib.hid hNM
  have HRV := Lib.hid hRV
  rw [← hNM] at ht
  clear hNM hRV
  obtain ⟨bb, hbb⟩ : ∃ bb, bb = (decide (stop < t.length) || decide (30 < es.length)) := ⟨_, rfl⟩
  rw [← hbb]
  have HBB := Lib.hid hbb
  clear hbb
  have hrd := read_any X S sCur (by decide) h.wf w h.dk
  rw [sCur_list, hc] at hrd
  unfold sCur at hrd
  have hhl := headB_len n
  have hpl := Pn.put_len n
  have htk := take_head n
  have htn := take_num n hn2
  have HTK := Lib.hid htk
  have HTN := Lib.hid htn
  have HS := Lib.hid hs
  have HOK := Lib.hid hok
  have HMAY := Lib.hid hmay
  have HT := Lib.hid ht
  clear htk htn hs hok hmay ht hc
  generalize hHB : Mw.headB n = hb at *
  have HHB := Lib.hid hHB
  clear hHB
  go_enter Tryz.func50, Tryz.ntmps50
  go_wp2_with fail
  refine hrd.mono ?_
  rintro e w1 ⟨A1, c1, rfl, hown1, hb1⟩
  have hcap1 : hb.length ≤ c1 ∧ c1 ≤ maxLen := by
    obtain ⟨A', c', e, h1, h2, _⟩ := own_form hown1
    injection e with _ e2 e3
    omega
  have hft := ftake_any A1 hb.length c1 hb 0 w1 (by omega) hcap1.1 hcap1.2 (Row.own hown1) (Nat.zero_le _)
  rw [HTK.out, show ((0 : Nat) : Int) = 0 from rfl] at hft
  simp only at hft
  clear hrd
  go_wp2_with fail
  refine hft.mono ?_
  rintro e w2 ⟨A2, M2, c2, rfl, hown2, hM2, hc2, hb2⟩
  have hM2e : (Pn.put n).length = M2 := (Row.own hown2).btlen
  have htn := take_any A2 M2 c2 (Pn.put n) w2 (by omega) (Row.own hown2)
  rw [HTN.out] at htn
  simp only at htn
  rw [hM2e] at htn
  have h2 := (h.below hb1).below hb2
  have hb12 := hb1.trans (hb2.mono hb1.size)
  clear hft hown1 hown2 hM2e hb1 hb2 hpl
  go_wp2_with fail
  refine htn.mono ?_
  rintro e w3 ⟨rfl, rfl⟩
  have hnm := name_any sMan (by decide) (n : Int) (by omega) w2 h2.env
  rw [sMan_list, ← show nm = _ from HNM.out] at hnm
  unfold sMan at hnm
  clear htn
  go_wp2_with fail
  refine hnm.mono ?_
  rintro e w4 ⟨rfl, hb4⟩
  have h4 := h2.below hb4
  have hb14 := hb12.trans (hb4.mono hb12.size)
  have hnl : (Mn.name Mn.kMan (n : Int)).length ≤ 1000 := by
    by_cases hne : Mn.name Mn.kMan (n : Int) = []
    · rw [hne]; simp
    · have := Mn.name_len hne
      omega
  rw [← show nm = _ from HNM.out] at hnl
  have hrd2 := read_any X S (str nm) (by rw [str_size]; unfold maxLen; omega) h4.wf w4 h4.dk
  rw [list_str, HT.out] at hrd2
  simp only at hrd2
  clear hnm hb12 hb4 h2
  go_wp2_with fail
  refine hrd2.mono ?_
  rintro e w5 ⟨A5, c5, rfl, hown5, hb5⟩
  have hcap5 : t.length ≤ c5 ∧ c5 ≤ maxLen := by
    obtain ⟨A', c', e, h1, h2, _⟩ := own_form hown5
    injection e with _ e2 e3
    omega
  have hvw := views_bare A5 t.length c5 t es stop er w5 (by omega) hcap5.1 hcap5.2 (Row.own hown5) HS.out her hes hel HMAY.out HOK.out
  have hb15 := hb14.trans (hb5.mono hb14.size)
  clear hrd2 hb5 hown5 hb14 h4
  rw [← show rv = _ from HRV.out] at hvw
  unfold Bv.vw vwV at hvw
  go_wp2_with fail
  refine hvw.mono ?_
  rintro e w6 ⟨rfl, hb6⟩
  have hb16 := hb15.trans (hb6.mono hb15.size)
  have hb17 := (hb16.alloc hb16.size (.cells #[.int .i64 (rv.g : Int), .slice none 0 0, .int .u64 (rv.f : Int), .int .u64 (rv.c : Int), .int .u64 (rv.a : Int), .int .u64 (rv.l : Int)] 31))
  have hlt6 := hb16.size
  clear hvw hb15 hb6 hb16
  have hbx := BoxO.new (w6.alloc (.cells #[.int .i64 (rv.g : Int), .slice none 0 0, .int .u64 (rv.f : Int), .int .u64 (rv.c : Int), .int .u64 (rv.a : Int), .int .u64 (rv.l : Int)] 31)) #[.pointer (some ⟨X.d, 0, none⟩), .string (str nm), .int .i64 (rv.g : Int), .slice none 0 0, .int .u64 (rv.f : Int), .int .u64 (rv.c : Int), .int .u64 (rv.a : Int), .int .u64 (rv.l : Int), .int .i64 (es.length : Int), .int .u32 0, .int .i32 0, .int .u32 0, .bool false] 92
  have hb18 := hb17.alloc hb17.size (.cells #[.pointer (some ⟨X.d, 0, none⟩), .string (str nm), .int .i64 (rv.g : Int), .slice none 0 0, .int .u64 (rv.f : Int), .int .u64 (rv.c : Int), .int .u64 (rv.a : Int), .int .u64 (rv.l : Int), .int .i64 (es.length : Int), .int .u32 0, .int .i32 0, .int .u32 0, .bool false] 92)
  have HBX := Lib.hid hbx
  have HB8 := Lib.hid hb18
  have HB7 := Lib.hid hb17.size
  clear hbx hb18 hb17
  by_cases q1 : stop < t.length
  · have q1' : (stop : Int) < (t.length : Int) := by omega
    obtain rfl : bb = true := by rw [show bb = _ from HBB.out]; simp [q1]
    clear q1
    go_wp2
    refine bodyPost_ret (v := .tuple #[.pointer (some ⟨w6.heap.size + 1, 0, none⟩), .bool true, .int .i64 0]) (by simp [results, Tryz.results50, go_sem]) rfl ⟨w6.heap.size + 1, rfl, ?_, HB8.out, by omega⟩
    have h9 := HBX.out
    rw [show ∀ o, (w6.alloc o).heap.size = w6.heap.size + 1 from fun _ => by simp] at h9
    exact h9
  · have q1' : ((stop : Int) < (t.length : Int)) = False := by simp; omega
    by_cases q2 : 30 < es.length
    · have q2' : (30 : Int) < (es.length : Int) := by omega
      obtain rfl : bb = true := by rw [show bb = _ from HBB.out]; simp [q2]
      clear q1 q2
      go_wp2
      refine bodyPost_ret (v := .tuple #[.pointer (some ⟨w6.heap.size + 1, 0, none⟩), .bool true, .int .i64 0]) (by simp [results, Tryz.results50, go_sem]) rfl ⟨w6.heap.size + 1, rfl, ?_, HB8.out, by omega⟩
      have h9 := HBX.out
      rw [show ∀ o, (w6.alloc o).heap.size = w6.heap.size + 1 from fun _ => by simp] at h9
      exact h9
    · have q2' : ((30 : Int) < (es.length : Int)) = False := by simp; omega
      obtain rfl : bb = false := by rw [show bb = _ from HBB.out]; simp [q1, q2]
      clear q1 q2
      go_wp2
      refine bodyPost_ret (v := .tuple #[.pointer (some ⟨w6.heap.size + 1, 0, none⟩), .bool false, .int .i64 0]) (by simp [results, Tryz.results50, go_sem]) rfl ⟨w6.heap.size + 1, rfl, ?_, HB8.out, by omega⟩
      have h9 := HBX.out
      rw [show ∀ o, (w6.alloc o).heap.size = w6.heap.size + 1 from fun _ => by simp] at h9
      exact h9
end Go.Proofs.YthepokgkfaocmaaGreatDoor

/-
  The walks of man.Rewrite, Open, New, where nothing is amiss.
-/
namespace Go.Proofs.YthepokgkfaocmaaGreatDoor
open Go Go.RowKit Go.Shelf
variable {m : Nat} {X X1 : Dw} {w w1 w2 : World} {S S1 : Sd} {M M1 : Ms}

theorem name_le (n : Int) : (Mn.name Mn.kMan n).length ≤ 1000 := by
  by_cases hne : Mn.name Mn.kMan n = []
  · rw [hne]; simp
  · have := Mn.name_len hne
    omega
theorem greatest_range : ∀ (l : List (List UInt8)) (a : Int), 0 ≤ a → a ≤ 1073741824 → 0 ≤ l.foldl (fun m s => max m ((Mn.number s Mn.kMan).getD 0)) a ∧ l.foldl (fun m s => max m ((Mn.number s Mn.kMan).getD 0)) a ≤ 1073741824
  | [], a, h1, h2 => ⟨h1, h2⟩
  | s :: r, a, h1, h2 => by
    obtain ⟨k, hk, hk2⟩ := number_range s
    simp only [List.foldl_cons]
    rw [hk]
    exact greatest_range r _ (by omega) (by omega)

set_option maxRecDepth 100000 in
set_option maxHeartbeats 1000000 in
theorem rewriteM_any (hv : M.v.ok = true) (hld : S.load ≤ 1000000000000) (h0 : Mst m X w S M w X) :
    Calls Tryz.prog 31 #[.pointer (some ⟨m, 0, none⟩)] w (Left m X w (Mw.rewriteM S M)) := by
  have c0 := h0.man.cell 0
  have c12 := h0.man.cell 12
  simp only [Ms.cells, List.getElem?_cons_zero, List.getElem?_cons_succ] at c0 c12
  obtain ⟨R, hR⟩ : ∃ R, R = Mw.rewriteM S M := ⟨_, rfl⟩
  rw [← hR]
  cases hbr : M.broken with
  | true =>
    have hl := Lib.hid (Left.mk_ (show R = (S, M, 14) by rw [hR, Mw.rewriteM, if_pos hbr]) h0)
    rw [hbr] at c12
    clear hR hbr
    go_enter Tryz.func31, Tryz.ntmps31
    go_wp2
    go_ret
    exact hl.out
  | false =>
    rw [hbr] at c12
    rw [Mw.rewriteM, if_neg (by simp [hbr])] at hR
    have hgr := greatest_any X S sMan (by decide) w h0.acc.dm
    rw [sMan_list] at hgr
    unfold sMan at hgr
    have hrg := greatest_range S.list 0 (by omega) (by omega)
    have hrg2 : 0 ≤ Mn.greatest S.list Mn.kMan ∧ Mn.greatest S.list Mn.kMan ≤ 1073741824 := hrg
    clear hrg
    generalize Mn.greatest S.list Mn.kMan = G at *
    by_cases hG : 1073741824 < G + 1
    · rw [if_pos hG] at hR
      have HR := Lib.hid hR
      clear hR hbr
      go_enter Tryz.func31, Tryz.ntmps31
      go_wp2_with fail
      refine hgr.mono ?_
      rintro e w1 ⟨rfl, hb1⟩
      have hl := Lib.hid (Left.mk_ HR.out (h0.below hb1))
      clear hb1
      go_wp2
      go_ret
      exact hl.out
    · rw [if_neg hG] at hR
      have HR := Lib.hid hR
      have hG2 : ((1073741824 : Int) < G + 1) = False := by simp; omega
      clear hR hbr hG
      go_enter Tryz.func31, Tryz.ntmps31
      go_wp2_with fail
      refine hgr.mono ?_
      rintro e w1 ⟨rfl, hb1⟩
      have h1 := h0.below hb1
      have hnm := name_any sMan (by decide) (G + 1) (by omega) w1 h1.acc.dm.env
      rw [sMan_list] at hnm
      unfold sMan at hnm
      clear hgr hb1
      go_wp2_with fail
      refine hnm.mono ?_
      rintro e w2 ⟨rfl, hb2⟩
      have h2 := h1.below hb2
      have hnl := name_le (G + 1)
      have hrw := rewrite_any (str (Mn.name Mn.kMan (G + 1))) (by rw [str_size]; exact hnl) hv hld h2.anew
      rw [list_str] at hrw
      have HRW := Lib.hid hrw
      clear hrw hnm hb2 hnl
      go_wp2_with fail
      refine HRW.out.mono ?_
      rintro e w3 ⟨rfl, X3, h3⟩
      have hl : Left m X w R (.returned (.int .i64 (R.2.2 : Int))) w3 := ⟨rfl, X3, by rw [show R = _ from HR.out]; exact h2.trans h3⟩
      have hRe : (Mw.rewrite S M (Mn.name Mn.kMan (G + 1))).2.2 = R.2.2 := by rw [show R = _ from HR.out]
      rw [hRe]
      have HL := Lib.hid hl
      clear hl hRe h3 h2 h1 HRW
      go_wp2
      go_ret
      exact HL.out
/-- A manifest that was made, or opened, since w. -/
structure Born (X : Dw) (w : World) (S : Sd) (M : Ms) (m : Nat) (w' : World) (X' : Dw) : Prop where
  e : X'.d = X.d
  dm : Dm w' X' S
  man : MK w' m X.d M
  away : m ∉ X'.foot
  c : Chg X.foot w w'
  f : ∀ g ∈ X'.foot, g ∈ X.foot ∨ w.heap.size ≤ g
  new : w.heap.size ≤ m
theorem born_of (hb : Below w.heap.size w w1) (hm : w.heap.size ≤ m) (k : Mst m X w1 S1 M1 w2 X1) : Born X w S1 M1 m w2 X1 :=
  ⟨k.acc.e, k.acc.dm, k.man, k.away, ((Chg.of_below hb X.foot).trans k.acc.c (fun g hg => by
    rcases List.mem_append.1 hg with h1 | h1
    · rw [List.mem_singleton.1 h1]; exact .inr hm
    · exact .inl h1)), fun g hg => by
    rcases k.acc.f g hg with h1 | h1
    · exact .inl h1
    · exact .inr (Nat.le_trans hb.size h1), hm⟩

theorem run_ok {es : List Bv} (hes : 0 < es.length) (hok : ∀ k, k < es.length → (Bv.run (es.take (k + 1))).ok = true) : (Bv.run es).ok = true := by
  have := hok (es.length - 1) (by omega)
  rwa [Nat.sub_add_cancel (by omega), List.take_length] at this

set_option maxRecDepth 100000 in
set_option maxHeartbeats 1000000 in
theorem open_any (n : Nat) (hn1 : 1 ≤ n) (hn2 : n ≤ 1073741824) (t : List UInt8) (es : List Bv) (stop er : Nat) (hc : S.read Mw.kCur = (Mw.headB n, 0)) (ht : S.read (Mn.name Mn.kMan n) = (t, 0)) (htl : t.length ≤ 1000000)
    (hs : Fr.split t = (List.replicate es.length 6, es.map Bv.bytes, stop, er)) (her : er = 0 ∨ er = 4) (hes : 0 < es.length) (hel : es.length ≤ 1000000) (hmay : ∀ e ∈ es, e.may = true) (hok : ∀ k, k < es.length → (Bv.run (es.take (k + 1))).ok = true) (hst : stop ≤ t.length) (h : Dm w X S)
    (hld : S.load ≤ 1000000000000) (R : Sd × Ms × Nat) (hR : R = if (decide (stop < t.length) || decide (30 < es.length)) = true then Mw.rewriteM S ⟨Mn.name Mn.kMan n, Bv.run es, es.length, false⟩ else (S, ⟨Mn.name Mn.kMan n, Bv.run es, es.length, false⟩, 0)) (hR0 : R.2.2 = 0) :
    Calls Tryz.prog 19 #[.pointer (some ⟨X.d, 0, none⟩)] w fun e w' => ∃ m X', e = .returned (.tuple #[.pointer (some ⟨m, 0, none⟩), .int .i64 0]) ∧ Born X w R.1 R.2.1 m w' X' := by
  have hlk := look_any n hn1 hn2 t es stop er hc ht htl hs her hes hel hmay hok hst h
  have hrok := run_ok hes hok
  cases hmust : (decide (stop < t.length) || decide (30 < es.length)) with
  | false =>
    rw [hmust] at hlk hR
    rw [if_neg (by simp)] at hR
    have HR := Lib.hid hR
    clear hR hmust hc ht hs her hes hmay hok hR0
    go_enter Tryz.func19, Tryz.ntmps19
    go_wp2_with fail
    refine hlk.mono ?_
    rintro e w1 ⟨m, rfl, hmk, hb1, hm1⟩
    have h1 : Mst m X w1 S _ w1 X := Mst.start (h.below hb1) hmk (fun hm => by have := h.dk.lt _ hm; omega) (Nat.le_trans h.env.base hm1)
    have hbn := born_of hb1 hm1 h1
    have hbn2 : Born X w R.1 R.2.1 m w1 X := by rw [show R = _ from HR.out]; exact hbn
    have HB := Lib.hid hbn2
    clear hbn hbn2 h1 hmk
    go_wp2
    go_ret2
    exact ⟨_, _, rfl, HB.out⟩
  | true =>
    rw [hmust] at hlk hR
    rw [if_pos rfl] at hR
    have HR := Lib.hid hR
    have HR0 := Lib.hid hR0
    clear hR hmust hc ht hs her hes hmay hok hR0
    go_enter Tryz.func19, Tryz.ntmps19
    go_wp2_with fail
    refine hlk.mono ?_
    rintro e w1 ⟨m, rfl, hmk, hb1, hm1⟩
    have h1 : Mst m X w1 S _ w1 X := Mst.start (h.below hb1) hmk (fun hm => by have := h.dk.lt _ hm; omega) (Nat.le_trans h.env.base hm1)
    have hrw := rewriteM_any hrok hld h1
    have HRW := Lib.hid hrw
    clear hrw hmk
    go_wp2_with fail
    refine HRW.out.mono ?_
    rintro e w2 ⟨rfl, X2, h2⟩
    rw [← show R = _ from HR.out] at h2 ⊢
    rw [show R.2.2 = _ from HR0.out]
    have HB := Lib.hid (born_of hb1 hm1 h2)
    clear h1 h2
    go_wp2
    go_ret2
    exact ⟨_, _, rfl, HB.out⟩
set_option maxRecDepth 100000 in
set_option maxHeartbeats 1000000 in
theorem mnew_any (v : Bv) (hv : v.ok = true) (hld : S.load ≤ 1000000000000) (h : Dm w X S) (R : Sd × Ms × Nat) (hR : R = Mw.rewrite S ⟨[], v, 0, false⟩ (Mn.name Mn.kMan 1)) (hR0 : R.2.2 = 0) :
    Calls Tryz.prog 12 #[.pointer (some ⟨X.d, 0, none⟩), v.vw] w fun e w' => ∃ m X', e = .returned (.tuple #[.pointer (some ⟨m, 0, none⟩), .int .i64 0]) ∧ Born X w R.1 R.2.1 m w' X' := by
  have HR := Lib.hid hR
  have HR0 := Lib.hid hR0
  clear hR hR0
  obtain ⟨hv1, hv2, hv3⟩ := Bv.ok_iff.1 hv
  have hb0 : Below w.heap.size w (w.alloc (.cells #[.int .i64 (v.g : Int), .slice none 0 0, .int .u64 (v.f : Int), .int .u64 (v.c : Int), .int .u64 (v.a : Int), .int .u64 (v.l : Int)] 31)) := (Below.refl _ _).alloc (Nat.le_refl _) _
  have hbx := BoxO.new w #[.int .i64 (v.g : Int), .slice none 0 0, .int .u64 (v.f : Int), .int .u64 (v.c : Int), .int .u64 (v.a : Int), .int .u64 (v.l : Int)] 31
  generalize hV : w.alloc (.cells #[.int .i64 (v.g : Int), .slice none 0 0, .int .u64 (v.f : Int), .int .u64 (v.c : Int), .int .u64 (v.a : Int), .int .u64 (v.l : Int)] 31) = V at *
  have hok := ok_bare (v.g : Int) v.f v.c v.a v.l V (by omega) (by omega) hv3
  have x0 := hbx.cell 0
  have x1 := hbx.cell 1
  have x2 := hbx.cell 2
  have x3 := hbx.cell 3
  have x4 := hbx.cell 4
  have x5 := hbx.cell 5
  simp only [List.getElem?_cons_zero, List.getElem?_cons_succ] at x0 x1 x2 x3 x4 x5
  unfold Bv.vw
  unfold vwV at hok ⊢
  go_enter Tryz.func12, Tryz.ntmps12
  go_wp2_with fail
  refine hok.mono ?_
  rintro e w1 ⟨rfl, hb1⟩
  have hbx1 := hbx.below hb1
  have x0 := hbx1.cell 0
  have x1 := hbx1.cell 1
  have x2 := hbx1.cell 2
  have x3 := hbx1.cell 3
  have x4 := hbx1.cell 4
  have x5 := hbx1.cell 5
  simp only [List.getElem?_cons_zero, List.getElem?_cons_succ] at x0 x1 x2 x3 x4 x5
  have how := own_bare (v.g : Int) (v.f : Int) (v.c : Int) (v.a : Int) (v.l : Int) w1
  unfold vwV at how
  have hb01 := later_ hb0 hb1
  clear hok hb1 hbx hb0
  go_wp2_with fail
  refine how.mono ?_
  rintro e w2 ⟨rfl, hb2⟩
  have hb02 := later_ hb01 hb2
  have hb3 := hb02.alloc hb02.size (.cells #[.pointer (some ⟨X.d, 0, none⟩), .string ⟨#[]⟩, .int .i64 (v.g : Int), .slice none 0 0, .int .u64 (v.f : Int), .int .u64 (v.c : Int), .int .u64 (v.a : Int), .int .u64 (v.l : Int), .int .i64 0, .int .u32 0, .int .i32 0, .int .u32 0, .bool false] 92)
  have hmk : MK (w2.alloc (.cells #[.pointer (some ⟨X.d, 0, none⟩), .string ⟨#[]⟩, .int .i64 (v.g : Int), .slice none 0 0, .int .u64 (v.f : Int), .int .u64 (v.c : Int), .int .u64 (v.a : Int), .int .u64 (v.l : Int), .int .i64 0, .int .u32 0, .int .i32 0, .int .u32 0, .bool false] 92)) w2.heap.size X.d ⟨[], v, 0, false⟩ := BoxO.new w2 #[.pointer (some ⟨X.d, 0, none⟩), .string ⟨#[]⟩, .int .i64 (v.g : Int), .slice none 0 0, .int .u64 (v.f : Int), .int .u64 (v.c : Int), .int .u64 (v.a : Int), .int .u64 (v.l : Int), .int .i64 0, .int .u32 0, .int .i32 0, .int .u32 0, .bool false] 92
  have hm1 := hb02.size
  have h3 := h.below hb3
  generalize hV3 : w2.alloc (.cells #[.pointer (some ⟨X.d, 0, none⟩), .string ⟨#[]⟩, .int .i64 (v.g : Int), .slice none 0 0, .int .u64 (v.f : Int), .int .u64 (v.c : Int), .int .u64 (v.a : Int), .int .u64 (v.l : Int), .int .i64 0, .int .u32 0, .int .i32 0, .int .u32 0, .bool false] 92) = V3 at *
  have hnm := name_any sMan (by decide) 1 (by omega) V3 h3.env
  rw [sMan_list] at hnm
  unfold sMan at hnm
  have hst : Mst w2.heap.size X V3 S ⟨[], v, 0, false⟩ V3 X := Mst.start h3 hmk (fun hm => by have := h.dk.lt _ hm; omega) (Nat.le_trans h.env.base hm1)
  clear how hb2 hb02 hb01 hmk hbx1 x0 x1 x2 x3 x4 x5
  go_wp2_with fail
  clear hV3
  generalize w2.heap.size = m at *
  refine hnm.mono ?_
  rintro e w4 ⟨rfl, hb4⟩
  have h4 := hst.below hb4
  have hnl := name_le 1
  have hrw := rewrite_any (str (Mn.name Mn.kMan 1)) (by rw [str_size]; exact hnl) hv hld h4.anew
  rw [list_str, ← show R = _ from HR.out] at hrw
  have HRW := Lib.hid hrw
  clear hrw hnm hb4
  go_wp2_with fail
  refine HRW.out.mono ?_
  rintro e w5 ⟨rfl, X5, h5⟩
  rw [show R.2.2 = _ from HR0.out]
  have HB := Lib.hid (born_of hb3 hm1 (h4.trans h5))
  clear h5 h4 hst h3 HRW
  go_wp2
  go_ret2
  exact ⟨_, _, rfl, HB.out⟩
end Go.Proofs.YthepokgkfaocmaaGreatDoor
