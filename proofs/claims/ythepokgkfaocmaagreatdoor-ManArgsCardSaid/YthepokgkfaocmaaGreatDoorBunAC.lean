/- Texts ManJ, ManK in one. No conditions. -/
import Derived.Test.YthepokgkfaocmaaGreatDoorBunAB
import Derived.Test.YthepokgkfaocmaaGreatDoorBunP

/-
  The walks of a manifest's Name, Count, Broken, View, Rewrite, for any View.
-/
namespace Go.Proofs.YthepokgkfaocmaaGreatDoor
open Go Go.RowKit Go.Shelf
variable {P : Sl} {m : Nat} {X X1 : Dw} {w w1 w2 : World} {S S1 : Sd} {M M1 : Gs}

theorem gmname_any (xd : Nat) (h : GK w m xd M P) : Calls Tryz.prog 14 #[.pointer (some ⟨m, 0, none⟩)] w fun e w' => e = .returned (.string (str M.name)) ∧ w = w' := by
  have c1 := h.cell 1
  simp only [Gs.cells, List.getElem?_cons_zero, List.getElem?_cons_succ] at c1
  go_enter Tryz.func14, Tryz.ntmps14
  go_wp2
  go_ret
  exact ⟨rfl, rfl⟩
theorem gmcount_any (xd : Nat) (h : GK w m xd M P) : Calls Tryz.prog 26 #[.pointer (some ⟨m, 0, none⟩)] w fun e w' => e = .returned (.int .i64 (M.count : Int)) ∧ w = w' := by
  have c1 := h.cell 8
  simp only [Gs.cells, List.getElem?_cons_zero, List.getElem?_cons_succ] at c1
  go_enter Tryz.func26, Tryz.ntmps26
  go_wp2
  go_ret
  exact ⟨rfl, rfl⟩
theorem gmbroken_any (xd : Nat) (h : GK w m xd M P) : Calls Tryz.prog 30 #[.pointer (some ⟨m, 0, none⟩)] w fun e w' => e = .returned (.bool M.broken) ∧ w = w' := by
  have c1 := h.cell 12
  simp only [Gs.cells, List.getElem?_cons_zero, List.getElem?_cons_succ] at c1
  go_enter Tryz.func30, Tryz.ntmps30
  go_wp2
  go_ret
  exact ⟨rfl, rfl⟩
set_option maxRecDepth 100000 in
set_option maxHeartbeats 1000000 in
theorem gmview_any (xd : Nat) (h : GK w m xd M P) (hr : Row w.heap.size w P.a P.n 2 (fcells M.v.files)) (hn : P.n ≤ 10000) : Calls Tryz.prog 20 #[.pointer (some ⟨m, 0, none⟩)] w fun e w' => ∃ A c, e = .returned (M.v.val A P.n c) ∧ Fresh w.heap.size w' A P.n c M.v.files ∧ Below w.heap.size w w' := by
  have hlt := h.lt
  have h1 : GK (w.alloc (.cells #[.int .i64 0, .slice none 0 0, .int .u64 0, .int .u64 0, .int .u64 0, .int .u64 0] 31)) m xd M P := BoxO.alloc h _
  have hr1 := (hr.alloc (Nat.le_refl _) (.cells #[.int .i64 0, .slice none 0 0, .int .u64 0, .int .u64 0, .int .u64 0, .int .u64 0] 31)).up (B' := (w.alloc (.cells #[.int .i64 0, .slice none 0 0, .int .u64 0, .int .u64 0, .int .u64 0, .int .u64 0] 31)).heap.size) (by simp)
  have c2 := h1.cell 2
  have c3 := h1.cell 3
  have c4 := h1.cell 4
  have c5 := h1.cell 5
  have c6 := h1.cell 6
  have c7 := h1.cell 7
  have hbx := BoxO.new w #[.int .i64 0, .slice none 0 0, .int .u64 0, .int .u64 0, .int .u64 0, .int .u64 0] 31
  simp only [Gs.cells, List.getElem?_cons_zero, List.getElem?_cons_succ] at c2 c3 c4 c5 c6 c7
  have how := own_gen M.v P.a P.n P.c _ (by omega) hr1
  have hb0 : Below w.heap.size w (w.alloc (.cells #[.int .i64 0, .slice none 0 0, .int .u64 0, .int .u64 0, .int .u64 0, .int .u64 0] 31)) := (Below.refl _ _).alloc (Nat.le_refl _) _
  unfold Vw.val at *
  generalize hV : w.alloc (.cells #[.int .i64 0, .slice none 0 0, .int .u64 0, .int .u64 0, .int .u64 0, .int .u64 0] 31) = V at *
  go_enter Tryz.func20, Tryz.ntmps20
  go_wp2_with fail
  refine how.mono ?_
  rintro e w1 ⟨A1, c1, rfl, hfr, hb1⟩
  have hb2 := later_ hb0 hb1
  have hbx1 := hbx.below hb1
  have hlt1 := hbx1.lt
  have hfr1 := hfr.base hb0.size
  have f0 := hbx1.free 0
  have f1 := hbx1.free 1
  have f2 := hbx1.free 2
  have f3 := hbx1.free 3
  have f4 := hbx1.free 4
  have f5 := hbx1.free 5
  have g0 := hbx1.cell 0
  have g1 := hbx1.cell 1
  have g2 := hbx1.cell 2
  have g3 := hbx1.cell 3
  have g4 := hbx1.cell 4
  have g5 := hbx1.cell 5
  simp only [List.getElem?_cons_zero, List.getElem?_cons_succ] at g0 g1 g2 g3 g4 g5
  have hst := (((((hb2.setCell (p := ⟨w.heap.size, 0, none⟩) (Nat.le_refl _) (.int .i64 M.v.log)).setCell (p := ⟨w.heap.size, 1, none⟩) (Nat.le_refl _) (.slice A1 P.n c1)).setCell (p := ⟨w.heap.size, 2, none⟩) (Nat.le_refl _) (.int .u64 (M.v.floor : Int))).setCell (p := ⟨w.heap.size, 3, none⟩) (Nat.le_refl _) (.int .u64 (M.v.cert : Int))).setCell (p := ⟨w.heap.size, 4, none⟩) (Nat.le_refl _) (.int .u64 (M.v.at_ : Int))).setCell (p := ⟨w.heap.size, 5, none⟩) (Nat.le_refl _) (.int .u64 (M.v.lease : Int))
  have hcg : Chg [w.heap.size] w1 ((((((w1.setCell ⟨w.heap.size, 0, none⟩ (.int .i64 M.v.log)).setCell ⟨w.heap.size, 1, none⟩ (.slice A1 P.n c1)).setCell ⟨w.heap.size, 2, none⟩ (.int .u64 (M.v.floor : Int))).setCell ⟨w.heap.size, 3, none⟩ (.int .u64 (M.v.cert : Int))).setCell ⟨w.heap.size, 4, none⟩ (.int .u64 (M.v.at_ : Int))).setCell ⟨w.heap.size, 5, none⟩ (.int .u64 (M.v.lease : Int))) :=
    ((((((Chg.refl [w.heap.size] w1).setCell _ (.inl (by simp))).setCell _ (.inl (by simp))).setCell _ (.inl (by simp))).setCell _ (.inl (by simp))).setCell _ (.inl (by simp))).setCell _ (.inl (by simp))
  have hVs : V.heap.size = w.heap.size + 1 := by rw [← hV]; simp
  have hfr2 := hfr1.chg hcg (fun a ha hm => by have := hfr.low a ha; simp at hm; omega)
  have HS := Lib.hid hst
  have HF := Lib.hid hfr2
  clear hst hbx1 hbx hb1 hb2 hb0 how h1 c2 c3 c4 c5 c6 c7 hcg hfr hfr1 hfr2 hr1 hr hV hVs
  go_wp2
  exact bodyPost_ret (v := .agg #[.int .i64 M.v.log, .slice A1 P.n c1, .int .u64 (M.v.floor : Int), .int .u64 (M.v.cert : Int), .int .u64 (M.v.at_ : Int), .int .u64 (M.v.lease : Int)]) (by simp [results, Tryz.results20, go_sem, g0, g1, g2, g3, g4, g5]) rfl ⟨A1, c1, rfl, HF.out, HS.out⟩
set_option maxRecDepth 100000 in
set_option maxHeartbeats 1000000 in
theorem grewriteM_any (hv : M.v.ok = true) (hld : S.load ≤ 1000000000000) (h0 : Gst P m X w S M w X) :
    Calls Tryz.prog 31 #[.pointer (some ⟨m, 0, none⟩)] w (GLeft m X w (Gw.rewriteM S M)) := by
  have c0 := h0.man.cell 0
  have c12 := h0.man.cell 12
  simp only [Gs.cells, List.getElem?_cons_zero, List.getElem?_cons_succ] at c0 c12
  obtain ⟨R, hR⟩ : ∃ R, R = Gw.rewriteM S M := ⟨_, rfl⟩
  rw [← hR]
  cases hbr : M.broken with
  | true =>
    have hl := Lib.hid (GLeft.mk_ (show R = (S, M, 14) by rw [hR, Gw.rewriteM, if_pos hbr]) h0)
    rw [hbr] at c12
    clear hR hbr
    go_enter Tryz.func31, Tryz.ntmps31
    go_wp2
    go_ret
    exact hl.out
  | false =>
    rw [hbr] at c12
    rw [Gw.rewriteM, if_neg (by simp [hbr])] at hR
    have hgr := greatest_any X S sMan (by decide) w h0.acc.dm
    rw [sMan_list] at hgr
    unfold sMan at hgr
    have hrg := greatest_range S.list 0 (by omega) (by omega)
    have hrg2 : 0 ≤ Mn.greatest S.list Mn.kMan ∧ Mn.greatest S.list Mn.kMan ≤ 1073741824 := hrg
    clear hrg
    generalize Mn.greatest S.list Mn.kMan = G at *
    by_cases hG : 1073741824 < G + 1
    · rw [if_pos hG] at hR
      have HR := Lib.hid hR
      clear hR hbr
      go_enter Tryz.func31, Tryz.ntmps31
      go_wp2_with fail
      refine hgr.mono ?_
      rintro e w1 ⟨rfl, hb1⟩
      have hl := Lib.hid (GLeft.mk_ HR.out (h0.below hb1))
      clear hb1
      go_wp2
      go_ret
      exact hl.out
    · rw [if_neg hG] at hR
      have HR := Lib.hid hR
      have hG2 : ((1073741824 : Int) < G + 1) = False := by simp; omega
      clear hR hbr hG
      go_enter Tryz.func31, Tryz.ntmps31
      go_wp2_with fail
      refine hgr.mono ?_
      rintro e w1 ⟨rfl, hb1⟩
      have h1 := h0.below hb1
      have hnm := name_any sMan (by decide) (G + 1) (by omega) w1 h1.acc.dm.env
      rw [sMan_list] at hnm
      unfold sMan at hnm
      clear hgr hb1
      go_wp2_with fail
      refine hnm.mono ?_
      rintro e w2 ⟨rfl, hb2⟩
      have h2 := h1.below hb2
      have hnl := name_le (G + 1)
      have hrw := grewrite_any (str (Mn.name Mn.kMan (G + 1))) (by rw [str_size]; exact hnl) hv hld h2.anew
      rw [list_str] at hrw
      have HRW := Lib.hid hrw
      clear hrw hnm hb2 hnl
      go_wp2_with fail
      refine HRW.out.mono ?_
      rintro e w3 ⟨rfl, P3, X3, h3⟩
      have hl : GLeft m X w R (.returned (.int .i64 (R.2.2 : Int))) w3 := ⟨rfl, P3, X3, by rw [show R = _ from HR.out]; exact h2.trans h3⟩
      have hRe : (Gw.rewrite S M (Mn.name Mn.kMan (G + 1))).2.2 = R.2.2 := by rw [show R = _ from HR.out]
      rw [hRe]
      have HL := Lib.hid hl
      clear hl hRe h3 h2 h1 HRW
      go_wp2
      go_ret
      exact HL.out
end Go.Proofs.YthepokgkfaocmaaGreatDoor

/-
  A manifest that was made, or opened; the walk of man.New, for any View.
-/
namespace Go.Proofs.YthepokgkfaocmaaGreatDoor
open Go Go.RowKit Go.Shelf
variable {P : Sl} {m : Nat} {X X1 : Dw} {w w1 w2 : World} {S S1 : Sd} {M M1 : Gs}

/-- A manifest that was made, or opened, since w. -/
structure GBorn (P : Sl) (X : Dw) (w : World) (S : Sd) (M : Gs) (m : Nat) (w' : World) (X' : Dw) : Prop where
  e : X'.d = X.d
  dm : Dm w' X' S
  man : GK w' m X.d M P
  row : Vrow w' X' m P M.v.files
  away : m ∉ X'.foot
  c : Chg X.foot w w'
  f : ∀ g ∈ X'.foot, g ∈ X.foot ∨ w.heap.size ≤ g
  new : w.heap.size ≤ m
theorem gborn_of (hb : Below w.heap.size w w1) (hm : w.heap.size ≤ m) (k : Gst P m X w1 S1 M1 w2 X1) : GBorn P X w S1 M1 m w2 X1 :=
  ⟨k.acc.e, k.acc.dm, k.man, k.row, k.away, ((Chg.of_below hb X.foot).trans k.acc.c (fun g hg => by
    rcases List.mem_append.1 hg with h1 | h1
    · rw [List.mem_singleton.1 h1]; exact .inr hm
    · exact .inl h1)), fun g hg => by
    rcases k.acc.f g hg with h1 | h1
    · exact .inl h1
    · exact .inr (Nat.le_trans hb.size h1), hm⟩

set_option maxRecDepth 100000 in
set_option maxHeartbeats 1000000 in
theorem gnew_bad (xd : Option Addr) (v : Vw) (A : Option Addr) (n c : Nat) (hv : v.ok = false) (w : World) (hn : n ≤ 10000) (hnc : n ≤ c) (hcm : c ≤ maxLen) (hr : Row w.heap.size w A n 2 (fcells v.files)) :
    Calls Tryz.prog 12 #[.pointer xd, v.val A n c] w fun e w' => e = .returned (.tuple #[.pointer none, .int .i64 1]) ∧ Below w.heap.size w w' := by
  have hok := fun W (hb : Below w.heap.size w W) => ok_gen v A n c W (by omega) hnc hcm ((hr.below hb).up hb.size)
  rw [hv] at hok
  unfold Vw.val at *
  have hb0 := (Below.refl w.heap.size w).alloc (Nat.le_refl _) (.cells #[.int .i64 v.log, .slice A n c, .int .u64 (v.floor : Int), .int .u64 (v.cert : Int), .int .u64 (v.at_ : Int), .int .u64 (v.lease : Int)] 31)
  have HOK := Lib.hid hok
  clear hok hr
  cases xd with
  | none =>
    go_enter Tryz.func12, Tryz.ntmps12
    go_wp2
    go_ret2
    exact ⟨rfl, hb0⟩
  | some a =>
    go_enter Tryz.func12, Tryz.ntmps12
    go_wp2_with fail
    refine (HOK.out _ hb0).mono ?_
    rintro e w1 ⟨rfl, hb1⟩
    have hbz := later_ hb0 hb1
    clear hb0 hb1
    go_wp2
    go_ret2
    exact ⟨rfl, hbz⟩
set_option maxRecDepth 100000 in
set_option maxHeartbeats 1000000 in
theorem gnew_nil (v : Vw) (A : Option Addr) (n c : Nat) (w : World) :
    Calls Tryz.prog 12 #[.pointer none, v.val A n c] w fun e w' => e = .returned (.tuple #[.pointer none, .int .i64 1]) ∧ Below w.heap.size w w' := by
  unfold Vw.val at *
  have hb0 := (Below.refl w.heap.size w).alloc (Nat.le_refl _) (.cells #[.int .i64 v.log, .slice A n c, .int .u64 (v.floor : Int), .int .u64 (v.cert : Int), .int .u64 (v.at_ : Int), .int .u64 (v.lease : Int)] 31)
  go_enter Tryz.func12, Tryz.ntmps12
  go_wp2
  go_ret2
  exact ⟨rfl, hb0⟩

set_option maxRecDepth 100000 in
set_option maxHeartbeats 1000000 in
theorem gnew_any (v : Vw) (A : Option Addr) (n c : Nat) (hv : v.ok = true) (hn : n ≤ 10000) (hnc : n ≤ c) (hcm : c ≤ maxLen) (hr : Row w.heap.size w A n 2 (fcells v.files)) (hld : S.load ≤ 1000000000000) (h : Dm w X S) (R : Sd × Gs × Nat) (hR : R = Gw.rewrite S ⟨[], v, 0, false⟩ (Mn.name Mn.kMan 1)) (hR0 : R.2.2 = 0) :
    Calls Tryz.prog 12 #[.pointer (some ⟨X.d, 0, none⟩), v.val A n c] w fun e w' => ∃ P m X', e = .returned (.tuple #[.pointer (some ⟨m, 0, none⟩), .int .i64 0]) ∧ GBorn P X w R.1 R.2.1 m w' X' := by
  have HR := Lib.hid hR
  have HR0 := Lib.hid hR0
  clear hR hR0
  have hb0 : Below w.heap.size w (w.alloc (.cells #[.int .i64 v.log, .slice A n c, .int .u64 (v.floor : Int), .int .u64 (v.cert : Int), .int .u64 (v.at_ : Int), .int .u64 (v.lease : Int)] 31)) := (Below.refl _ _).alloc (Nat.le_refl _) _
  have hbx := BoxO.new w #[.int .i64 v.log, .slice A n c, .int .u64 (v.floor : Int), .int .u64 (v.cert : Int), .int .u64 (v.at_ : Int), .int .u64 (v.lease : Int)] 31
  generalize hV : w.alloc (.cells #[.int .i64 v.log, .slice A n c, .int .u64 (v.floor : Int), .int .u64 (v.cert : Int), .int .u64 (v.at_ : Int), .int .u64 (v.lease : Int)] 31) = V at *
  have hr1 := (hr.below hb0).up hb0.size
  have hok := ok_gen v A n c V (by omega) hnc hcm hr1
  rw [hv] at hok
  have how := fun W hW => own_gen v A n c W (by omega) hW
  have x0 := hbx.cell 0
  have x1 := hbx.cell 1
  have x2 := hbx.cell 2
  have x3 := hbx.cell 3
  have x4 := hbx.cell 4
  have x5 := hbx.cell 5
  simp only [List.getElem?_cons_zero, List.getElem?_cons_succ] at x0 x1 x2 x3 x4 x5
  unfold Vw.val at hok how ⊢
  have HOW := Lib.hid how
  clear how
  go_enter Tryz.func12, Tryz.ntmps12
  go_wp2_with fail
  refine hok.mono ?_
  rintro e w1 ⟨rfl, hb1⟩
  have hbx1 := hbx.below hb1
  have x0 := hbx1.cell 0
  have x1 := hbx1.cell 1
  have x2 := hbx1.cell 2
  have x3 := hbx1.cell 3
  have x4 := hbx1.cell 4
  have x5 := hbx1.cell 5
  simp only [List.getElem?_cons_zero, List.getElem?_cons_succ] at x0 x1 x2 x3 x4 x5
  have hb01 := later_ hb0 hb1
  have how := HOW.out w1 ((hr1.below hb1).up hb1.size)
  clear hok hb1 hbx hb0 HOW hr1 hr
  go_wp2_with fail
  refine how.mono ?_
  rintro e w2 ⟨A2, c2, rfl, hfr, hb2⟩
  have hb02 := later_ hb01 hb2
  have hb3 := hb02.alloc hb02.size (.cells #[.pointer (some ⟨X.d, 0, none⟩), .string ⟨#[]⟩, .int .i64 v.log, .slice A2 n c2, .int .u64 (v.floor : Int), .int .u64 (v.cert : Int), .int .u64 (v.at_ : Int), .int .u64 (v.lease : Int), .int .i64 0, .int .u32 0, .int .i32 0, .int .u32 0, .bool false] 92)
  have hmk : GK (w2.alloc (.cells #[.pointer (some ⟨X.d, 0, none⟩), .string ⟨#[]⟩, .int .i64 v.log, .slice A2 n c2, .int .u64 (v.floor : Int), .int .u64 (v.cert : Int), .int .u64 (v.at_ : Int), .int .u64 (v.lease : Int), .int .i64 0, .int .u32 0, .int .i32 0, .int .u32 0, .bool false] 92)) w2.heap.size X.d ⟨[], v, 0, false⟩ ⟨A2, n, c2⟩ := BoxO.new w2 #[.pointer (some ⟨X.d, 0, none⟩), .string ⟨#[]⟩, .int .i64 v.log, .slice A2 n c2, .int .u64 (v.floor : Int), .int .u64 (v.cert : Int), .int .u64 (v.at_ : Int), .int .u64 (v.lease : Int), .int .i64 0, .int .u32 0, .int .i32 0, .int .u32 0, .bool false] 92
  have hm1 := hb02.size
  have h3 := h.below hb3
  have hvr : Vrow (w2.alloc (.cells #[.pointer (some ⟨X.d, 0, none⟩), .string ⟨#[]⟩, .int .i64 v.log, .slice A2 n c2, .int .u64 (v.floor : Int), .int .u64 (v.cert : Int), .int .u64 (v.at_ : Int), .int .u64 (v.lease : Int), .int .i64 0, .int .u32 0, .int .i32 0, .int .u32 0, .bool false] 92)) X w2.heap.size ⟨A2, n, c2⟩ v.files := by
    refine ⟨(hfr.row.alloc (Nat.le_refl _) _).up (by simp), hfr.nc, hfr.cm, hn, fun j hj a ha => ⟨?_, fun hm => ?_⟩⟩
    · obtain ⟨a', e, hb, _⟩ := hfr.row.cell j hj
      simp only at ha
      rw [ha] at e
      injection e with e
      subst e
      omega
    · have h4 := hfr.low a ha
      have h5 := h.dk.lt _ hm
      have := hb01.size
      omega
  generalize hV3 : w2.alloc (.cells #[.pointer (some ⟨X.d, 0, none⟩), .string ⟨#[]⟩, .int .i64 v.log, .slice A2 n c2, .int .u64 (v.floor : Int), .int .u64 (v.cert : Int), .int .u64 (v.at_ : Int), .int .u64 (v.lease : Int), .int .i64 0, .int .u32 0, .int .i32 0, .int .u32 0, .bool false] 92) = V3 at *
  have hnm := name_any sMan (by decide) 1 (by omega) V3 h3.env
  rw [sMan_list] at hnm
  unfold sMan at hnm
  have hst : Gst ⟨A2, n, c2⟩ w2.heap.size X V3 S ⟨[], v, 0, false⟩ V3 X := Gst.start h3 hmk hvr (fun hm => by have := h.dk.lt _ hm; omega) (Nat.le_trans h.env.base hm1)
  clear how hb2 hb02 hb01 hmk hbx1 x0 x1 x2 x3 x4 x5 hvr hfr
  go_wp2_with fail
  clear hV3
  generalize w2.heap.size = m at *
  refine hnm.mono ?_
  rintro e w4 ⟨rfl, hb4⟩
  have h4 := hst.below hb4
  have hnl := name_le 1
  have hrw := grewrite_any (str (Mn.name Mn.kMan 1)) (by rw [str_size]; exact hnl) hv hld h4.anew
  rw [list_str, ← show R = _ from HR.out] at hrw
  have HRW := Lib.hid hrw
  clear hrw hnm hb4
  go_wp2_with fail
  refine HRW.out.mono ?_
  rintro e w5 ⟨rfl, P5, X5, h5⟩
  rw [show R.2.2 = _ from HR0.out]
  have HB := Lib.hid (gborn_of hb3 hm1 (h4.trans h5))
  clear h5 h4 hst h3 HRW
  go_wp2
  go_ret2
  exact ⟨_, _, _, rfl, HB.out⟩
end Go.Proofs.YthepokgkfaocmaaGreatDoor
