/- Texts ManF, ManG in one. No conditions. -/
import Derived.Test.YthepokgkfaocmaaGreatDoorBunO

/-
  The walks of man.Rewrite, Look, Open, New, where nothing is amiss.
-/
namespace Go.Proofs.YthepokgkfaocmaaGreatDoor
open Go Go.RowKit Go.Shelf
variable {m : Nat} {X X1 : Dw} {w w1 w2 : World} {S S1 : Sd} {M M1 : Ms}

theorem take_head (n : Nat) : Fr.take (Mw.headB n) 0 = (8, Pn.put n, (Mw.headB n).length, 0) := by
  have h := Fr.take_put [] 8 (Pn.put n) [] (by omega) (by omega) (by have := Pn.put_len n; omega)
  simpa [Mw.headB] using h
theorem take_num (n : Nat) (hn : n ≤ 1073741824) : Pn.take (Pn.put n) = (n, (Pn.put n).length, 0) := by
  have h := Pn.take_put n [] (by omega)
  simpa using h

set_option maxRecDepth 100000 in
set_option maxHeartbeats 1000000 in
theorem look_any (n : Nat) (hn1 : 1 ≤ n) (hn2 : n ≤ 1073741824) (t : List UInt8) (es : List Bv) (stop er : Nat) (hc : S.read Mw.kCur = (Mw.headB n, 0)) (ht : S.read (Mn.name Mn.kMan n) = (t, 0)) (htl : t.length ≤ 1000000)
    (hs : Fr.split t = (List.replicate es.length 6, es.map Bv.bytes, stop, er)) (her : er = 0 ∨ er = 4) (hes : 0 < es.length) (hel : es.length ≤ 1000000) (hmay : ∀ e ∈ es, e.may = true) (hok : ∀ k, k < es.length → (Bv.run (es.take (k + 1))).ok = true) (hst : stop ≤ t.length) (h : Dm w X S) :
    Calls Tryz.prog 50 #[.pointer (some ⟨X.d, 0, none⟩)] w fun e w' => ∃ m, e = .returned (.tuple #[.pointer (some ⟨m, 0, none⟩), .bool (decide (stop < t.length) || decide (30 < es.length)), .int .i64 0]) ∧ MK w' m X.d ⟨Mn.name Mn.kMan n, Bv.run es, es.length, false⟩ ∧ Below w.heap.size w w' ∧ w.heap.size ≤ m := by
  obtain ⟨nm, hNM⟩ : ∃ nm, nm = Mn.name Mn.kMan (n : Int) := ⟨_, rfl⟩
  obtain ⟨rv, hRV⟩ : ∃ rv, rv = Bv.run es := ⟨_, rfl⟩
  rw [← hNM, ← hRV]
  have HNM := Lib.hid hNM
  have HRV := Lib.hid hRV
  rw [← hNM] at ht
  clear hNM hRV
  obtain ⟨bb, hbb⟩ : ∃ bb, bb = (decide (stop < t.length) || decide (30 < es.length)) := ⟨_, rfl⟩
  rw [← hbb]
  have HBB := Lib.hid hbb
  clear hbb
  have hrd := read_any X S sCur (by decide) h.wf w h.dk
  rw [sCur_list, hc] at hrd
  unfold sCur at hrd
  have hhl := headB_len n
  have hpl := Pn.put_len n
  have htk := take_head n
  have htn := take_num n hn2
  have HTK := Lib.hid htk
  have HTN := Lib.hid htn
  have HS := Lib.hid hs
  have HOK := Lib.hid hok
  have HMAY := Lib.hid hmay
  have HT := Lib.hid ht
  clear htk htn hs hok hmay ht hc
  generalize hHB : Mw.headB n = hb at *
  have HHB := Lib.hid hHB
  clear hHB
  go_enter Tryz.func50, Tryz.ntmps50
  go_wp2_with fail
  refine hrd.mono ?_
  rintro e w1 ⟨A1, c1, rfl, hown1, hb1⟩
  have hcap1 : hb.length ≤ c1 ∧ c1 ≤ maxLen := by
    obtain ⟨A', c', e, h1, h2, _⟩ := own_form hown1
    injection e with _ e2 e3
    omega
  have hft := ftake_any A1 hb.length c1 hb 0 w1 (by omega) hcap1.1 hcap1.2 (Row.own hown1) (Nat.zero_le _)
  rw [HTK.out, show ((0 : Nat) : Int) = 0 from rfl] at hft
  simp only at hft
  clear hrd
  go_wp2_with fail
  refine hft.mono ?_
  rintro e w2 ⟨A2, M2, c2, rfl, hown2, hM2, hc2, hb2⟩
  have hM2e : (Pn.put n).length = M2 := (Row.own hown2).btlen
  have htn := take_any A2 M2 c2 (Pn.put n) w2 (by omega) (Row.own hown2)
  rw [HTN.out] at htn
  simp only at htn
  rw [hM2e] at htn
  have h2 := (h.below hb1).below hb2
  have hb12 := hb1.trans (hb2.mono hb1.size)
  clear hft hown1 hown2 hM2e hb1 hb2 hpl
  go_wp2_with fail
  refine htn.mono ?_
  rintro e w3 ⟨rfl, rfl⟩
  have hnm := name_any sMan (by decide) (n : Int) (by omega) w2 h2.env
  rw [sMan_list, ← show nm = _ from HNM.out] at hnm
  unfold sMan at hnm
  clear htn
  go_wp2_with fail
  refine hnm.mono ?_
  rintro e w4 ⟨rfl, hb4⟩
  have h4 := h2.below hb4
  have hb14 := hb12.trans (hb4.mono hb12.size)
  have hnl : (Mn.name Mn.kMan (n : Int)).length ≤ 1000 := by
    by_cases hne : Mn.name Mn.kMan (n : Int) = []
    · rw [hne]; simp
    · have := Mn.name_len hne
      omega
  rw [← show nm = _ from HNM.out] at hnl
  have hrd2 := read_any X S (str nm) (by rw [str_size]; unfold maxLen; omega) h4.wf w4 h4.dk
  rw [list_str, HT.out] at hrd2
  simp only at hrd2
  clear hnm hb12 hb4 h2
  go_wp2_with fail
  refine hrd2.mono ?_
  rintro e w5 ⟨A5, c5, rfl, hown5, hb5⟩
  have hcap5 : t.length ≤ c5 ∧ c5 ≤ maxLen := by
    obtain ⟨A', c', e, h1, h2, _⟩ := own_form hown5
    injection e with _ e2 e3
    omega
  have hvw := views_bare A5 t.length c5 t es stop er w5 (by omega) hcap5.1 hcap5.2 (Row.own hown5) HS.out her hes hel HMAY.out HOK.out
  have hb15 := hb14.trans (hb5.mono hb14.size)
  clear hrd2 hb5 hown5 hb14 h4
  rw [← show rv = _ from HRV.out] at hvw
  unfold Bv.vw vwV at hvw
  go_wp2_with fail
  refine hvw.mono ?_
  rintro e w6 ⟨rfl, hb6⟩
  have hb16 := hb15.trans (hb6.mono hb15.size)
  have hb17 := (hb16.alloc hb16.size (.cells #[.int .i64 (rv.g : Int), .slice none 0 0, .int .u64 (rv.f : Int), .int .u64 (rv.c : Int), .int .u64 (rv.a : Int), .int .u64 (rv.l : Int)] 31))
  have hlt6 := hb16.size
  clear hvw hb15 hb6 hb16
  have hbx := BoxO.new (w6.alloc (.cells #[.int .i64 (rv.g : Int), .slice none 0 0, .int .u64 (rv.f : Int), .int .u64 (rv.c : Int), .int .u64 (rv.a : Int), .int .u64 (rv.l : Int)] 31)) #[.pointer (some ⟨X.d, 0, none⟩), .string (str nm), .int .i64 (rv.g : Int), .slice none 0 0, .int .u64 (rv.f : Int), .int .u64 (rv.c : Int), .int .u64 (rv.a : Int), .int .u64 (rv.l : Int), .int .i64 (es.length : Int), .int .u32 0, .int .i32 0, .int .u32 0, .bool false] 92
  have hb18 := hb17.alloc hb17.size (.cells #[.pointer (some ⟨X.d, 0, none⟩), .string (str nm), .int .i64 (rv.g : Int), .slice none 0 0, .int .u64 (rv.f : Int), .int .u64 (rv.c : Int), .int .u64 (rv.a : Int), .int .u64 (rv.l : Int), .int .i64 (es.length : Int), .int .u32 0, .int .i32 0, .int .u32 0, .bool false] 92)
  have HBX := Lib.hid hbx
  have HB8 := Lib.hid hb18
  have HB7 := Lib.hid hb17.size
  clear hbx hb18 hb17
  by_cases q1 : stop < t.length
  · have q1' : (stop : Int) < (t.length : Int) := by omega
    obtain rfl : bb = true := by rw [show bb = _ from HBB.out]; simp [q1]
    clear q1
    go_wp2
    refine bodyPost_ret (v := .tuple #[.pointer (some ⟨w6.heap.size + 1, 0, none⟩), .bool true, .int .i64 0]) (by simp [results, Tryz.results50, go_sem]) rfl ⟨w6.heap.size + 1, rfl, ?_, HB8.out, by omega⟩
    have h9 := HBX.out
    rw [show ∀ o, (w6.alloc o).heap.size = w6.heap.size + 1 from fun _ => by simp] at h9
    exact h9
  · have q1' : ((stop : Int) < (t.length : Int)) = False := by simp; omega
    by_cases q2 : 30 < es.length
    · have q2' : (30 : Int) < (es.length : Int) := by omega
      obtain rfl : bb = true := by rw [show bb = _ from HBB.out]; simp [q2]
      clear q1 q2
      go_wp2
      refine bodyPost_ret (v := .tuple #[.pointer (some ⟨w6.heap.size + 1, 0, none⟩), .bool true, .int .i64 0]) (by simp [results, Tryz.results50, go_sem]) rfl ⟨w6.heap.size + 1, rfl, ?_, HB8.out, by omega⟩
      have h9 := HBX.out
      rw [show ∀ o, (w6.alloc o).heap.size = w6.heap.size + 1 from fun _ => by simp] at h9
      exact h9
    · have q2' : ((30 : Int) < (es.length : Int)) = False := by simp; omega
      obtain rfl : bb = false := by rw [show bb = _ from HBB.out]; simp [q1, q2]
      clear q1 q2
      go_wp2
      refine bodyPost_ret (v := .tuple #[.pointer (some ⟨w6.heap.size + 1, 0, none⟩), .bool false, .int .i64 0]) (by simp [results, Tryz.results50, go_sem]) rfl ⟨w6.heap.size + 1, rfl, ?_, HB8.out, by omega⟩
      have h9 := HBX.out
      rw [show ∀ o, (w6.alloc o).heap.size = w6.heap.size + 1 from fun _ => by simp] at h9
      exact h9
end Go.Proofs.YthepokgkfaocmaaGreatDoor

/-
  The walks of man.Rewrite, Open, New, where nothing is amiss.
-/
namespace Go.Proofs.YthepokgkfaocmaaGreatDoor
open Go Go.RowKit Go.Shelf
variable {m : Nat} {X X1 : Dw} {w w1 w2 : World} {S S1 : Sd} {M M1 : Ms}

theorem name_le (n : Int) : (Mn.name Mn.kMan n).length ≤ 1000 := by
  by_cases hne : Mn.name Mn.kMan n = []
  · rw [hne]; simp
  · have := Mn.name_len hne
    omega
theorem greatest_range : ∀ (l : List (List UInt8)) (a : Int), 0 ≤ a → a ≤ 1073741824 → 0 ≤ l.foldl (fun m s => max m ((Mn.number s Mn.kMan).getD 0)) a ∧ l.foldl (fun m s => max m ((Mn.number s Mn.kMan).getD 0)) a ≤ 1073741824
  | [], a, h1, h2 => ⟨h1, h2⟩
  | s :: r, a, h1, h2 => by
    obtain ⟨k, hk, hk2⟩ := number_range s
    simp only [List.foldl_cons]
    rw [hk]
    exact greatest_range r _ (by omega) (by omega)

set_option maxRecDepth 100000 in
set_option maxHeartbeats 1000000 in
theorem rewriteM_any (hv : M.v.ok = true) (hld : S.load ≤ 1000000000000) (h0 : Mst m X w S M w X) :
    Calls Tryz.prog 31 #[.pointer (some ⟨m, 0, none⟩)] w (Left m X w (Mw.rewriteM S M)) := by
  have c0 := h0.man.cell 0
  have c12 := h0.man.cell 12
  simp only [Ms.cells, List.getElem?_cons_zero, List.getElem?_cons_succ] at c0 c12
  obtain ⟨R, hR⟩ : ∃ R, R = Mw.rewriteM S M := ⟨_, rfl⟩
  rw [← hR]
  cases hbr : M.broken with
  | true =>
    have hl := Lib.hid (Left.mk_ (show R = (S, M, 14) by rw [hR, Mw.rewriteM, if_pos hbr]) h0)
    rw [hbr] at c12
    clear hR hbr
    go_enter Tryz.func31, Tryz.ntmps31
    go_wp2
    go_ret
    exact hl.out
  | false =>
    rw [hbr] at c12
    rw [Mw.rewriteM, if_neg (by simp [hbr])] at hR
    have hgr := greatest_any X S sMan (by decide) w h0.acc.dm
    rw [sMan_list] at hgr
    unfold sMan at hgr
    have hrg := greatest_range S.list 0 (by omega) (by omega)
    have hrg2 : 0 ≤ Mn.greatest S.list Mn.kMan ∧ Mn.greatest S.list Mn.kMan ≤ 1073741824 := hrg
    clear hrg
    generalize Mn.greatest S.list Mn.kMan = G at *
    by_cases hG : 1073741824 < G + 1
    · rw [if_pos hG] at hR
      have HR := Lib.hid hR
      clear hR hbr
      go_enter Tryz.func31, Tryz.ntmps31
      go_wp2_with fail
      refine hgr.mono ?_
      rintro e w1 ⟨rfl, hb1⟩
      have hl := Lib.hid (Left.mk_ HR.out (h0.below hb1))
      clear hb1
      go_wp2
      go_ret
      exact hl.out
    · rw [if_neg hG] at hR
      have HR := Lib.hid hR
      have hG2 : ((1073741824 : Int) < G + 1) = False := by simp; omega
      clear hR hbr hG
      go_enter Tryz.func31, Tryz.ntmps31
      go_wp2_with fail
      refine hgr.mono ?_
      rintro e w1 ⟨rfl, hb1⟩
      have h1 := h0.below hb1
      have hnm := name_any sMan (by decide) (G + 1) (by omega) w1 h1.acc.dm.env
      rw [sMan_list] at hnm
      unfold sMan at hnm
      clear hgr hb1
      go_wp2_with fail
      refine hnm.mono ?_
      rintro e w2 ⟨rfl, hb2⟩
      have h2 := h1.below hb2
      have hnl := name_le (G + 1)
      have hrw := rewrite_any (str (Mn.name Mn.kMan (G + 1))) (by rw [str_size]; exact hnl) hv hld h2.anew
      rw [list_str] at hrw
      have HRW := Lib.hid hrw
      clear hrw hnm hb2 hnl
      go_wp2_with fail
      refine HRW.out.mono ?_
      rintro e w3 ⟨rfl, X3, h3⟩
      have hl : Left m X w R (.returned (.int .i64 (R.2.2 : Int))) w3 := ⟨rfl, X3, by rw [show R = _ from HR.out]; exact h2.trans h3⟩
      have hRe : (Mw.rewrite S M (Mn.name Mn.kMan (G + 1))).2.2 = R.2.2 := by rw [show R = _ from HR.out]
      rw [hRe]
      have HL := Lib.hid hl
      clear hl hRe h3 h2 h1 HRW
      go_wp2
      go_ret
      exact HL.out
/-- A manifest that was made, or opened, since w. -/
structure Born (X : Dw) (w : World) (S : Sd) (M : Ms) (m : Nat) (w' : World) (X' : Dw) : Prop where
  e : X'.d = X.d
  dm : Dm w' X' S
  man : MK w' m X.d M
  away : m ∉ X'.foot
  c : Chg X.foot w w'
  f : ∀ g ∈ X'.foot, g ∈ X.foot ∨ w.heap.size ≤ g
  new : w.heap.size ≤ m
theorem born_of (hb : Below w.heap.size w w1) (hm : w.heap.size ≤ m) (k : Mst m X w1 S1 M1 w2 X1) : Born X w S1 M1 m w2 X1 :=
  ⟨k.acc.e, k.acc.dm, k.man, k.away, ((Chg.of_below hb X.foot).trans k.acc.c (fun g hg => by
    rcases List.mem_append.1 hg with h1 | h1
    · rw [List.mem_singleton.1 h1]; exact .inr hm
    · exact .inl h1)), fun g hg => by
    rcases k.acc.f g hg with h1 | h1
    · exact .inl h1
    · exact .inr (Nat.le_trans hb.size h1), hm⟩

theorem run_ok {es : List Bv} (hes : 0 < es.length) (hok : ∀ k, k < es.length → (Bv.run (es.take (k + 1))).ok = true) : (Bv.run es).ok = true := by
  have := hok (es.length - 1) (by omega)
  rwa [Nat.sub_add_cancel (by omega), List.take_length] at this

set_option maxRecDepth 100000 in
set_option maxHeartbeats 1000000 in
theorem open_any (n : Nat) (hn1 : 1 ≤ n) (hn2 : n ≤ 1073741824) (t : List UInt8) (es : List Bv) (stop er : Nat) (hc : S.read Mw.kCur = (Mw.headB n, 0)) (ht : S.read (Mn.name Mn.kMan n) = (t, 0)) (htl : t.length ≤ 1000000)
    (hs : Fr.split t = (List.replicate es.length 6, es.map Bv.bytes, stop, er)) (her : er = 0 ∨ er = 4) (hes : 0 < es.length) (hel : es.length ≤ 1000000) (hmay : ∀ e ∈ es, e.may = true) (hok : ∀ k, k < es.length → (Bv.run (es.take (k + 1))).ok = true) (hst : stop ≤ t.length) (h : Dm w X S)
    (hld : S.load ≤ 1000000000000) (R : Sd × Ms × Nat) (hR : R = if (decide (stop < t.length) || decide (30 < es.length)) = true then Mw.rewriteM S ⟨Mn.name Mn.kMan n, Bv.run es, es.length, false⟩ else (S, ⟨Mn.name Mn.kMan n, Bv.run es, es.length, false⟩, 0)) (hR0 : R.2.2 = 0) :
    Calls Tryz.prog 19 #[.pointer (some ⟨X.d, 0, none⟩)] w fun e w' => ∃ m X', e = .returned (.tuple #[.pointer (some ⟨m, 0, none⟩), .int .i64 0]) ∧ Born X w R.1 R.2.1 m w' X' := by
  have hlk := look_any n hn1 hn2 t es stop er hc ht htl hs her hes hel hmay hok hst h
  have hrok := run_ok hes hok
  cases hmust : (decide (stop < t.length) || decide (30 < es.length)) with
  | false =>
    rw [hmust] at hlk hR
    rw [if_neg (by simp)] at hR
    have HR := Lib.hid hR
    clear hR hmust hc ht hs her hes hmay hok hR0
    go_enter Tryz.func19, Tryz.ntmps19
    go_wp2_with fail
    refine hlk.mono ?_
    rintro e w1 ⟨m, rfl, hmk, hb1, hm1⟩
    have h1 : Mst m X w1 S _ w1 X := Mst.start (h.below hb1) hmk (fun hm => by have := h.dk.lt _ hm; omega) (Nat.le_trans h.env.base hm1)
    have hbn := born_of hb1 hm1 h1
    have hbn2 : Born X w R.1 R.2.1 m w1 X := by rw [show R = _ from HR.out]; exact hbn
    have HB := Lib.hid hbn2
    clear hbn hbn2 h1 hmk
    go_wp2
    go_ret2
    exact ⟨_, _, rfl, HB.out⟩
  | true =>
    rw [hmust] at hlk hR
    rw [if_pos rfl] at hR
    have HR := Lib.hid hR
    have HR0 := Lib.hid hR0
    clear hR hmust hc ht hs her hes hmay hok hR0
    go_enter Tryz.func19, Tryz.ntmps19
    go_wp2_with fail
    refine hlk.mono ?_
    rintro e w1 ⟨m, rfl, hmk, hb1, hm1⟩
    have h1 : Mst m X w1 S _ w1 X := Mst.start (h.below hb1) hmk (fun hm => by have := h.dk.lt _ hm; omega) (Nat.le_trans h.env.base hm1)
    have hrw := rewriteM_any hrok hld h1
    have HRW := Lib.hid hrw
    clear hrw hmk
    go_wp2_with fail
    refine HRW.out.mono ?_
    rintro e w2 ⟨rfl, X2, h2⟩
    rw [← show R = _ from HR.out] at h2 ⊢
    rw [show R.2.2 = _ from HR0.out]
    have HB := Lib.hid (born_of hb1 hm1 h2)
    clear h1 h2
    go_wp2
    go_ret2
    exact ⟨_, _, rfl, HB.out⟩
set_option maxRecDepth 100000 in
set_option maxHeartbeats 1000000 in
theorem mnew_any (v : Bv) (hv : v.ok = true) (hld : S.load ≤ 1000000000000) (h : Dm w X S) (R : Sd × Ms × Nat) (hR : R = Mw.rewrite S ⟨[], v, 0, false⟩ (Mn.name Mn.kMan 1)) (hR0 : R.2.2 = 0) :
    Calls Tryz.prog 12 #[.pointer (some ⟨X.d, 0, none⟩), v.vw] w fun e w' => ∃ m X', e = .returned (.tuple #[.pointer (some ⟨m, 0, none⟩), .int .i64 0]) ∧ Born X w R.1 R.2.1 m w' X' := by
  have HR := Lib.hid hR
  have HR0 := Lib.hid hR0
  clear hR hR0
  obtain ⟨hv1, hv2, hv3⟩ := Bv.ok_iff.1 hv
  have hb0 : Below w.heap.size w (w.alloc (.cells #[.int .i64 (v.g : Int), .slice none 0 0, .int .u64 (v.f : Int), .int .u64 (v.c : Int), .int .u64 (v.a : Int), .int .u64 (v.l : Int)] 31)) := (Below.refl _ _).alloc (Nat.le_refl _) _
  have hbx := BoxO.new w #[.int .i64 (v.g : Int), .slice none 0 0, .int .u64 (v.f : Int), .int .u64 (v.c : Int), .int .u64 (v.a : Int), .int .u64 (v.l : Int)] 31
  generalize hV : w.alloc (.cells #[.int .i64 (v.g : Int), .slice none 0 0, .int .u64 (v.f : Int), .int .u64 (v.c : Int), .int .u64 (v.a : Int), .int .u64 (v.l : Int)] 31) = V at *
  have hok := ok_bare (v.g : Int) v.f v.c v.a v.l V (by omega) (by omega) hv3
  have x0 := hbx.cell 0
  have x1 := hbx.cell 1
  have x2 := hbx.cell 2
  have x3 := hbx.cell 3
  have x4 := hbx.cell 4
  have x5 := hbx.cell 5
  simp only [List.getElem?_cons_zero, List.getElem?_cons_succ] at x0 x1 x2 x3 x4 x5
  unfold Bv.vw
  unfold vwV at hok ⊢
  go_enter Tryz.func12, Tryz.ntmps12
  go_wp2_with fail
  refine hok.mono ?_
  rintro e w1 ⟨rfl, hb1⟩
  have hbx1 := hbx.below hb1
  have x0 := hbx1.cell 0
  have x1 := hbx1.cell 1
  have x2 := hbx1.cell 2
  have x3 := hbx1.cell 3
  have x4 := hbx1.cell 4
  have x5 := hbx1.cell 5
  simp only [List.getElem?_cons_zero, List.getElem?_cons_succ] at x0 x1 x2 x3 x4 x5
  have how := own_bare (v.g : Int) (v.f : Int) (v.c : Int) (v.a : Int) (v.l : Int) w1
  unfold vwV at how
  have hb01 := later_ hb0 hb1
  clear hok hb1 hbx hb0
  go_wp2_with fail
  refine how.mono ?_
  rintro e w2 ⟨rfl, hb2⟩
  have hb02 := later_ hb01 hb2
  have hb3 := hb02.alloc hb02.size (.cells #[.pointer (some ⟨X.d, 0, none⟩), .string ⟨#[]⟩, .int .i64 (v.g : Int), .slice none 0 0, .int .u64 (v.f : Int), .int .u64 (v.c : Int), .int .u64 (v.a : Int), .int .u64 (v.l : Int), .int .i64 0, .int .u32 0, .int .i32 0, .int .u32 0, .bool false] 92)
  have hmk : MK (w2.alloc (.cells #[.pointer (some ⟨X.d, 0, none⟩), .string ⟨#[]⟩, .int .i64 (v.g : Int), .slice none 0 0, .int .u64 (v.f : Int), .int .u64 (v.c : Int), .int .u64 (v.a : Int), .int .u64 (v.l : Int), .int .i64 0, .int .u32 0, .int .i32 0, .int .u32 0, .bool false] 92)) w2.heap.size X.d ⟨[], v, 0, false⟩ := BoxO.new w2 #[.pointer (some ⟨X.d, 0, none⟩), .string ⟨#[]⟩, .int .i64 (v.g : Int), .slice none 0 0, .int .u64 (v.f : Int), .int .u64 (v.c : Int), .int .u64 (v.a : Int), .int .u64 (v.l : Int), .int .i64 0, .int .u32 0, .int .i32 0, .int .u32 0, .bool false] 92
  have hm1 := hb02.size
  have h3 := h.below hb3
  generalize hV3 : w2.alloc (.cells #[.pointer (some ⟨X.d, 0, none⟩), .string ⟨#[]⟩, .int .i64 (v.g : Int), .slice none 0 0, .int .u64 (v.f : Int), .int .u64 (v.c : Int), .int .u64 (v.a : Int), .int .u64 (v.l : Int), .int .i64 0, .int .u32 0, .int .i32 0, .int .u32 0, .bool false] 92) = V3 at *
  have hnm := name_any sMan (by decide) 1 (by omega) V3 h3.env
  rw [sMan_list] at hnm
  unfold sMan at hnm
  have hst : Mst w2.heap.size X V3 S ⟨[], v, 0, false⟩ V3 X := Mst.start h3 hmk (fun hm => by have := h.dk.lt _ hm; omega) (Nat.le_trans h.env.base hm1)
  clear how hb2 hb02 hb01 hmk hbx1 x0 x1 x2 x3 x4 x5
  go_wp2_with fail
  clear hV3
  generalize w2.heap.size = m at *
  refine hnm.mono ?_
  rintro e w4 ⟨rfl, hb4⟩
  have h4 := hst.below hb4
  have hnl := name_le 1
  have hrw := rewrite_any (str (Mn.name Mn.kMan 1)) (by rw [str_size]; exact hnl) hv hld h4.anew
  rw [list_str, ← show R = _ from HR.out] at hrw
  have HRW := Lib.hid hrw
  clear hrw hnm hb4
  go_wp2_with fail
  refine HRW.out.mono ?_
  rintro e w5 ⟨rfl, X5, h5⟩
  rw [show R.2.2 = _ from HR0.out]
  have HB := Lib.hid (born_of hb3 hm1 (h4.trans h5))
  clear h5 h4 hst h3 HRW
  go_wp2
  go_ret2
  exact ⟨_, _, rfl, HB.out⟩
end Go.Proofs.YthepokgkfaocmaaGreatDoor
