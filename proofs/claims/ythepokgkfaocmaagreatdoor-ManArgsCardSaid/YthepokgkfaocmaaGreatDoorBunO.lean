/- Texts ManE in one. No conditions. -/
import Derived.Test.YthepokgkfaocmaaGreatDoorBunN
import Derived.StillTailTactics
import Derived.Deep.RegionHeld3

/-
  The walks of a manifest's Name, Count, Broken, View, Save.
-/
namespace Go.Proofs.YthepokgkfaocmaaGreatDoor
open Go Go.RowKit Go.Shelf
variable {m : Nat} {X X1 : Dw} {w w1 w2 : World} {S S1 : Sd} {M M1 : Ms}

theorem mname_any (xd : Nat) (h : MK w m xd M) : Calls Tryz.prog 14 #[.pointer (some ⟨m, 0, none⟩)] w fun e w' => e = .returned (.string (str M.name)) ∧ w = w' := by
  have c1 := h.cell 1
  simp only [Ms.cells, List.getElem?_cons_zero, List.getElem?_cons_succ] at c1
  go_enter Tryz.func14, Tryz.ntmps14
  go_wp2
  go_ret
  exact ⟨rfl, rfl⟩
theorem mcount_any (xd : Nat) (h : MK w m xd M) : Calls Tryz.prog 26 #[.pointer (some ⟨m, 0, none⟩)] w fun e w' => e = .returned (.int .i64 (M.count : Int)) ∧ w = w' := by
  have c1 := h.cell 8
  simp only [Ms.cells, List.getElem?_cons_zero, List.getElem?_cons_succ] at c1
  go_enter Tryz.func26, Tryz.ntmps26
  go_wp2
  go_ret
  exact ⟨rfl, rfl⟩
theorem mbroken_any (xd : Nat) (h : MK w m xd M) : Calls Tryz.prog 30 #[.pointer (some ⟨m, 0, none⟩)] w fun e w' => e = .returned (.bool M.broken) ∧ w = w' := by
  have c1 := h.cell 12
  simp only [Ms.cells, List.getElem?_cons_zero, List.getElem?_cons_succ] at c1
  go_enter Tryz.func30, Tryz.ntmps30
  go_wp2
  go_ret
  exact ⟨rfl, rfl⟩
set_option maxRecDepth 100000 in
theorem mview_any (xd : Nat) (h : MK w m xd M) : Calls Tryz.prog 20 #[.pointer (some ⟨m, 0, none⟩)] w fun e w' => e = .returned M.v.vw ∧ Below w.heap.size w w' := by
  have hlt := h.lt
  have h1 : MK (w.alloc (.cells #[.int .i64 0, .slice none 0 0, .int .u64 0, .int .u64 0, .int .u64 0, .int .u64 0] 31)) m xd M := BoxO.alloc h _
  have c2 := h1.cell 2
  have c3 := h1.cell 3
  have c4 := h1.cell 4
  have c5 := h1.cell 5
  have c6 := h1.cell 6
  have c7 := h1.cell 7
  have hbx := BoxO.new w #[.int .i64 0, .slice none 0 0, .int .u64 0, .int .u64 0, .int .u64 0, .int .u64 0] 31
  simp only [Ms.cells, List.getElem?_cons_zero, List.getElem?_cons_succ] at c2 c3 c4 c5 c6 c7
  have how := own_bare (M.v.g : Int) (M.v.f : Int) (M.v.c : Int) (M.v.a : Int) (M.v.l : Int) (w.alloc (.cells #[.int .i64 0, .slice none 0 0, .int .u64 0, .int .u64 0, .int .u64 0, .int .u64 0] 31))
  go_enter Tryz.func20, Tryz.ntmps20
  go_wp2_with fail
  unfold vwV at how
  refine how.mono ?_
  rintro e w1 ⟨rfl, hb1⟩
  have hb0 : Below w.heap.size w (w.alloc (.cells #[.int .i64 0, .slice none 0 0, .int .u64 0, .int .u64 0, .int .u64 0, .int .u64 0] 31)) := (Below.refl _ _).alloc (Nat.le_refl _) _
  have hb2 := later_ hb0 hb1
  have hbx1 := hbx.below hb1
  have hlt1 := hbx1.lt
  have f0 := hbx1.free 0
  have f1 := hbx1.free 1
  have f2 := hbx1.free 2
  have f3 := hbx1.free 3
  have f4 := hbx1.free 4
  have f5 := hbx1.free 5
  have g0 := hbx1.cell 0
  have g1 := hbx1.cell 1
  have g2 := hbx1.cell 2
  have g3 := hbx1.cell 3
  have g4 := hbx1.cell 4
  have g5 := hbx1.cell 5
  simp only [List.getElem?_cons_zero, List.getElem?_cons_succ] at g0 g1 g2 g3 g4 g5
  have hst := (((((hb2.setCell (p := ⟨w.heap.size, 0, none⟩) (Nat.le_refl _) (.int .i64 (M.v.g : Int))).setCell (p := ⟨w.heap.size, 1, none⟩) (Nat.le_refl _) (.slice none 0 0)).setCell (p := ⟨w.heap.size, 2, none⟩) (Nat.le_refl _) (.int .u64 (M.v.f : Int))).setCell (p := ⟨w.heap.size, 3, none⟩) (Nat.le_refl _) (.int .u64 (M.v.c : Int))).setCell (p := ⟨w.heap.size, 4, none⟩) (Nat.le_refl _) (.int .u64 (M.v.a : Int))).setCell (p := ⟨w.heap.size, 5, none⟩) (Nat.le_refl _) (.int .u64 (M.v.l : Int))
  have HS := Lib.hid hst
  clear hst hbx1 hbx hb1 hb2 hb0 how h1 c2 c3 c4 c5 c6 c7
  go_wp2
  exact bodyPost_ret (v := M.v.vw) (by simp [results, Tryz.results20, go_sem, g0, g1, g2, g3, g4, g5, Bv.vw, vwV]) rfl ⟨rfl, HS.out⟩

set_option maxRecDepth 100000 in
set_option maxHeartbeats 1000000 in
theorem save_any (e : Bv) (he : e.may = true) (hok : (M.v.app e).ok = true) (hc0 : M.count ≤ 1000000000) (hnl : M.name.length ≤ 1000) (h0 : Mst m X w S M w X) :
    Calls Tryz.prog 15 #[.pointer (some ⟨m, 0, none⟩), e.ed] w (Left m X w (Mw.save S M e)) := by
  obtain ⟨R, hR⟩ : ∃ R, R = Mw.save S M e := ⟨_, rfl⟩
  rw [← hR]
  have hbe : Below w.heap.size w (w.alloc (.cells #[.slice none 0 0, .slice none 0 0, .int .i64 (e.g : Int), .int .u64 (e.f : Int), .int .u64 (e.c : Int), .int .u64 (e.a : Int), .int .u64 (e.l : Int)] 39)) := (Below.refl _ _).alloc (Nat.le_refl _) _
  have h1 := h0.below hbe
  have hbx := BoxO.new w #[.slice none 0 0, .slice none 0 0, .int .i64 (e.g : Int), .int .u64 (e.f : Int), .int .u64 (e.c : Int), .int .u64 (e.a : Int), .int .u64 (e.l : Int)] 39
  have hlt := h0.man.lt
  generalize hV : w.alloc (.cells #[.slice none 0 0, .slice none 0 0, .int .i64 (e.g : Int), .int .u64 (e.f : Int), .int .u64 (e.c : Int), .int .u64 (e.a : Int), .int .u64 (e.l : Int)] 39) = V at *
  have b12 := h1.man.cell 12
  have y0 := hbx.cell 0
  have y1 := hbx.cell 1
  have y2 := hbx.cell 2
  have y3 := hbx.cell 3
  have y4 := hbx.cell 4
  have y5 := hbx.cell 5
  have y6 := hbx.cell 6
  simp only [Ms.cells, List.getElem?_cons_zero, List.getElem?_cons_succ] at b12 y0 y1 y2 y3 y4 y5 y6
  obtain ⟨he2, he3⟩ := Bv.may_iff.1 he
  cases hbr : M.broken with
  | true =>
    have hh : R = (S, M, 14) := by rw [hR, Mw.save, if_pos hbr]
    have hl := Lib.hid (Left.mk_ hh h1)
    rw [hbr] at b12
    unfold Bv.ed edV
    clear hR hh hbr
    go_enter Tryz.func15, Tryz.ntmps15
    go_wp2
    go_ret
    exact hl.out
  | false =>
    have hr64 : e.f < 18446744073709551616 ∧ e.c < 18446744073709551616 ∧ e.a < 18446744073709551616 ∧ e.l < 18446744073709551616 := by
      simp [bigs] at he3
      omega
    have hput := eput_bare none 0 0 [] e.g e.f e.c e.a e.l V he2 he3 (by omega) (by omega) (by unfold maxLen; omega) Row.nil_ hr64
    have hrec : ([] : List UInt8) ++ Ed.rec_ ⟨[], [], e.g, e.f, e.c, e.a, e.l⟩ = Mw.recB e := rfl
    rw [hrec] at hput
    have HT : R = if (S.append M.name (Mw.recB e)).2 ≠ 0 then ((S.append M.name (Mw.recB e)).1, M, (S.append M.name (Mw.recB e)).2)
      else if ((S.append M.name (Mw.recB e)).1.sync M.name).2 ≠ 0 then (((S.append M.name (Mw.recB e)).1.sync M.name).1, { M with count := M.count + 1, v := M.v.app e, broken := true }, ((S.append M.name (Mw.recB e)).1.sync M.name).2)
      else (((S.append M.name (Mw.recB e)).1.sync M.name).1, { M with count := M.count + 1, v := M.v.app e }, 0) := by
      rw [hR, Mw.save, if_neg (by simp [hbr])]
    rw [hbr] at b12
    have HTT := Lib.hid HT
    unfold Bv.ed
    unfold edV at hput ⊢
    clear hR HT hbr hrec
    go_enter Tryz.func15, Tryz.ntmps15
    go_wp2_with fail
    refine hput.mono ?_
    rintro e1 w2 ⟨A, K, c, rfl, hown, hKc, hcm, hb2⟩
    have h2 := h1.below hb2
    have hbx2 := hbx.below hb2
    have y0 := hbx2.cell 0
    have y1 := hbx2.cell 1
    have y2 := hbx2.cell 2
    have y3 := hbx2.cell 3
    have y4 := hbx2.cell 4
    have y5 := hbx2.cell 5
    have y6 := hbx2.cell 6
    have z2 := h2.man.cell 2
    have z3 := h2.man.cell 3
    have z4 := h2.man.cell 4
    have z5 := h2.man.cell 5
    have z6 := h2.man.cell 6
    have z7 := h2.man.cell 7
    simp only [Ms.cells, List.getElem?_cons_zero, List.getElem?_cons_succ] at y0 y1 y2 y3 y4 y5 y6 z2 z3 z4 z5 z6 z7
    have hKC : ∀ w' : World, Below w2.heap.size w2 w' → w'.cell? ⟨m, 2, none⟩ = some (.int .i64 (M.v.g : Int)) ∧ w'.cell? ⟨m, 3, none⟩ = some (.slice none 0 0) ∧ w'.cell? ⟨m, 4, none⟩ = some (.int .u64 (M.v.f : Int)) ∧ w'.cell? ⟨m, 5, none⟩ = some (.int .u64 (M.v.c : Int)) ∧ w'.cell? ⟨m, 6, none⟩ = some (.int .u64 (M.v.a : Int)) ∧ w'.cell? ⟨m, 7, none⟩ = some (.int .u64 (M.v.l : Int)) ∧
        w'.cell? ⟨w.heap.size, 0, none⟩ = some (.slice none 0 0) ∧ w'.cell? ⟨w.heap.size, 1, none⟩ = some (.slice none 0 0) ∧ w'.cell? ⟨w.heap.size, 2, none⟩ = some (.int .i64 (e.g : Int)) ∧ w'.cell? ⟨w.heap.size, 3, none⟩ = some (.int .u64 (e.f : Int)) ∧ w'.cell? ⟨w.heap.size, 4, none⟩ = some (.int .u64 (e.c : Int)) ∧ w'.cell? ⟨w.heap.size, 5, none⟩ = some (.int .u64 (e.a : Int)) ∧ w'.cell? ⟨w.heap.size, 6, none⟩ = some (.int .u64 (e.l : Int)) := fun w' hb => by
      have hm2 := h2.man.lt
      have he2 := hbx2.lt
      refine ⟨?_, ?_, ?_, ?_, ?_, ?_, ?_, ?_, ?_, ?_, ?_, ?_, ?_⟩
      all_goals (rw [hb.cell (by simpa using (by assumption))]; assumption)
    have KC := Lib.hid hKC
    have hKA := fun W => bv_apply M.v e W hok
    unfold Bv.vw vwV Bv.ed edV at hKA
    have KA := Lib.hid hKA
    clear hKC hKA z2 z3 z4 z5 z6 z7 y0 y1 y2 y3 y4 y5 y6
    generalize hve : M.v.app e = ve at *
    clear hve
    clear hput b12 hb2
    go_wp2
    refine wp_region_held_drew (S := fun w' => Below w2.heap.size w2 w') rfl (below_drew (Below.refl _ _)) (fun hSw => ?_)
    refine wpAnyH_take (i := 0) (v := ?v0) rfl (by kernel_rfl) (by kernel_rfl) (by kernel_rfl) (fun _ _ _ h => h) (Or.inl ⟨by rfl, ?h0⟩) hSw ?k0
    case h0 => (intro w hSw; (obtain ⟨z2, z3, z4, z5, z6, z7, y0, y1, y2, y3, y4, y5, y6⟩ := KC.out w hSw); go_simp; try (with_reducible rfl))
    go_simp
    refine wpAnyH_take (i := 1) (v := ?v1) rfl (by kernel_rfl) (by kernel_rfl) (by kernel_rfl) (fun _ _ _ h => h) (Or.inl ⟨by rfl, ?h1⟩) hSw ?k1
    case h1 => (intro w hSw; (obtain ⟨z2, z3, z4, z5, z6, z7, y0, y1, y2, y3, y4, y5, y6⟩ := KC.out w hSw); go_simp; try (with_reducible rfl))
    go_simp
    refine wpAnyH_take (i := 2) (v := ?v2) rfl (by kernel_rfl) (by kernel_rfl) (by kernel_rfl) (fun _ _ _ h => h) (Or.inl ⟨by rfl, ?h2⟩) hSw ?k2
    case h2 => (intro w hSw; (obtain ⟨z2, z3, z4, z5, z6, z7, y0, y1, y2, y3, y4, y5, y6⟩ := KC.out w hSw); go_simp; try (with_reducible rfl))
    go_simp
    refine wpAnyH_take (i := 3) (v := ?v3) rfl (by kernel_rfl) (by kernel_rfl) (by kernel_rfl) (fun _ _ _ h => h) (Or.inl ⟨by rfl, ?h3⟩) hSw ?k3
    case h3 => (intro w hSw; (obtain ⟨z2, z3, z4, z5, z6, z7, y0, y1, y2, y3, y4, y5, y6⟩ := KC.out w hSw); go_simp; try (with_reducible rfl))
    go_simp
    refine wpAnyH_take (i := 4) (v := ?v4) rfl (by kernel_rfl) (by kernel_rfl) (by kernel_rfl) (fun _ _ _ h => h) (Or.inl ⟨by rfl, ?h4⟩) hSw ?k4
    case h4 => (intro w hSw; (obtain ⟨z2, z3, z4, z5, z6, z7, y0, y1, y2, y3, y4, y5, y6⟩ := KC.out w hSw); go_simp; try (with_reducible rfl))
    go_simp
    refine wpAnyH_ready (rs := [5, 9]) (by kernel_rfl) (by simp) ?_
    refine AllReadyH.cons rfl (fun K hK => ?_) (AllReadyH.cons rfl (fun K hK => ?_) AllReadyH.nil)
    case' refine_1 =>
      go_simp
      refine (KA.out _).mono ?_
      rintro e5 w5 ⟨rfl, hb5⟩
      go_simp
      refine hK.out _ _ (hSw.trans (hb5.mono hSw.size)) (fun hSn => ?_)
      clear hK K hSw
      have hSw := hSn
      clear hSn
      go_simp
      refine wpAnyH_take (i := 6) (v := ?va6) rfl (by kernel_rfl) (by kernel_rfl) (by kernel_rfl) (fun _ _ _ h => h) (Or.inl ⟨by rfl, ?ha6⟩) hSw ?ka6
      case ha6 => (intro w hSw; (obtain ⟨z2, z3, z4, z5, z6, z7, y0, y1, y2, y3, y4, y5, y6⟩ := KC.out w hSw); go_simp; try (with_reducible rfl))
      go_simp
      refine wpAnyH_take (i := 7) (v := ?va7) rfl (by kernel_rfl) (by kernel_rfl) (by kernel_rfl) (fun _ _ _ h => h) (Or.inl ⟨by rfl, ?ha7⟩) hSw ?ka7
      case ha7 => (intro w hSw; (obtain ⟨z2, z3, z4, z5, z6, z7, y0, y1, y2, y3, y4, y5, y6⟩ := KC.out w hSw); go_simp; try (with_reducible rfl))
      go_simp
      refine wpAnyH_take (i := 8) (v := ?va8) rfl (by kernel_rfl) (by kernel_rfl) (by kernel_rfl) (fun _ _ _ h => h) (Or.inl ⟨by rfl, ?ha8⟩) hSw ?ka8
      case ha8 => (intro w hSw; (obtain ⟨z2, z3, z4, z5, z6, z7, y0, y1, y2, y3, y4, y5, y6⟩ := KC.out w hSw); go_simp; try (with_reducible rfl))
      go_simp
      have hS5 := Lib.hid hSw
      refine wpAnyH_ready (rs := [9]) (by kernel_rfl) (by simp) ?_
      refine AllReadyH.cons rfl (fun K hK => ?_) AllReadyH.nil
      go_simp
      refine hK.out _ _ (hSw.alloc hSw.size _) (fun hSn => ?_)
      clear hK K hSw
      have hSw := hSn
      clear hSn
      go_simp
      refine wpAnyH_ready (rs := [10]) (by kernel_rfl) (by simp) ?_
      refine AllReadyH.cons rfl (fun K hK => ?_) AllReadyH.nil
      go_simp
      refine hK.out _ _ (hS5.out.alloc hS5.out.size _) (fun hSn => ?_)
      clear hK K hSw
      have hSw := hSn
      clear hSn
      go_simp
      refine wpAnyH_ready (rs := [11]) (by kernel_rfl) (by simp) ?_
      refine AllReadyH.cons rfl (fun K hK => ?_) AllReadyH.nil
      go_simp
      refine hK.out _ _ hSw (fun hSn => ?_)
      clear hK K hSw
      have hSw := hSn
      clear hSn
      go_simp
      refine wpAnyH_done (by kernel_rfl) ?_ _
      have hbv : BoxO _ 31 w5.heap.size ve.cells := BoxO.new w5 #[.int .i64 (ve.g : Int), .slice none 0 0, .int .u64 (ve.f : Int), .int .u64 (ve.c : Int), .int .u64 (ve.a : Int), .int .u64 (ve.l : Int)] 31
      have hgb : w2.heap.size ≤ w5.heap.size := hS5.out.size
      generalize w5.heap.size = gb at *
      generalize w5.alloc (.cells #[.int .i64 (ve.g : Int), .slice none 0 0, .int .u64 (ve.f : Int), .int .u64 (ve.c : Int), .int .u64 (ve.a : Int), .int .u64 (ve.l : Int)] 31) = W at *
      clear hS5 hb5 w5
    case' refine_2 =>
      go_simp
      refine hK.out _ _ (hSw.alloc hSw.size _) (fun hSn => ?_)
      clear hK K hSw
      have hSw := hSn
      clear hSn
      go_simp
      refine wpAnyH_ready (rs := [5]) (by kernel_rfl) (by simp) ?_
      refine AllReadyH.cons rfl (fun K hK => ?_) AllReadyH.nil
      have hbz : BoxO (w2.drew.alloc (.cells #[.int .i64 0, .slice none 0 0, .int .u64 0, .int .u64 0, .int .u64 0, .int .u64 0] 31)) 31 w2.heap.size [.int .i64 0, .slice none 0 0, .int .u64 0, .int .u64 0, .int .u64 0, .int .u64 0] := BoxO.new w2.drew #[.int .i64 0, .slice none 0 0, .int .u64 0, .int .u64 0, .int .u64 0, .int .u64 0] 31
      go_simp
      refine (KA.out _).mono ?_
      rintro e5 w5 ⟨rfl, hb5⟩
      have hbz5 := hbz.below hb5
      go_simp
      refine hK.out _ _ (hSw.trans (hb5.mono hSw.size)) (fun hSn => ?_)
      clear hK K hSw
      have hSw := hSn
      clear hSn
      go_simp
      refine wpAnyH_take (i := 6) (v := ?vb6) rfl (by kernel_rfl) (by kernel_rfl) (by kernel_rfl) (fun _ _ _ h => h) (Or.inl ⟨by rfl, ?hb6⟩) hSw ?kb6
      case hb6 => (intro w hSw; (obtain ⟨z2, z3, z4, z5, z6, z7, y0, y1, y2, y3, y4, y5, y6⟩ := KC.out w hSw); go_simp; try (with_reducible rfl))
      go_simp
      refine wpAnyH_take (i := 7) (v := ?vb7) rfl (by kernel_rfl) (by kernel_rfl) (by kernel_rfl) (fun _ _ _ h => h) (Or.inl ⟨by rfl, ?hb7⟩) hSw ?kb7
      case hb7 => (intro w hSw; (obtain ⟨z2, z3, z4, z5, z6, z7, y0, y1, y2, y3, y4, y5, y6⟩ := KC.out w hSw); go_simp; try (with_reducible rfl))
      go_simp
      refine wpAnyH_take (i := 8) (v := ?vb8) rfl (by kernel_rfl) (by kernel_rfl) (by kernel_rfl) (fun _ _ _ h => h) (Or.inl ⟨by rfl, ?hb8⟩) hSw ?kb8
      case hb8 => (intro w hSw; (obtain ⟨z2, z3, z4, z5, z6, z7, y0, y1, y2, y3, y4, y5, y6⟩ := KC.out w hSw); go_simp; try (with_reducible rfl))
      go_simp
      have g0 := hbz5.cell 0
      have g1 := hbz5.cell 1
      have g2 := hbz5.cell 2
      have g3 := hbz5.cell 3
      have g4 := hbz5.cell 4
      have g5 := hbz5.cell 5
      have f0 := hbz5.free 0
      have f1 := hbz5.free 1
      have f2 := hbz5.free 2
      have f3 := hbz5.free 3
      have f4 := hbz5.free 4
      have f5 := hbz5.free 5
      simp only [List.getElem?_cons_zero, List.getElem?_cons_succ] at g0 g1 g2 g3 g4 g5
      refine wpAnyH_ready (rs := [10]) (by kernel_rfl) (by simp) ?_
      refine AllReadyH.cons rfl (fun K hK => ?_) AllReadyH.nil
      go_simp
      have hbv := ((((((hbz5.store 0 (.int .i64 (ve.g : Int))).store 1 (.slice none 0 0)).store 2 (.int .u64 (ve.f : Int))).store 3 (.int .u64 (ve.c : Int))).store 4 (.int .u64 (ve.a : Int))).store 5 (.int .u64 (ve.l : Int)))
      refine hK.out _ _ ((((((hSw.setCell (p := ⟨w2.heap.size, 0, none⟩) (Nat.le_refl _) _).setCell (p := ⟨w2.heap.size, 1, none⟩) (Nat.le_refl _) _).setCell (p := ⟨w2.heap.size, 2, none⟩) (Nat.le_refl _) _).setCell (p := ⟨w2.heap.size, 3, none⟩) (Nat.le_refl _) _).setCell (p := ⟨w2.heap.size, 4, none⟩) (Nat.le_refl _) _).setCell (p := ⟨w2.heap.size, 5, none⟩) (Nat.le_refl _) _) (fun hSn => ?_)
      clear g0 g1 g2 g3 g4 g5 f0 f1 f2 f3 f4 f5
      clear hK K hSw
      have hSw := hSn
      clear hSn
      go_simp
      refine wpAnyH_ready (rs := [11]) (by kernel_rfl) (by simp) ?_
      refine AllReadyH.cons rfl (fun K hK => ?_) AllReadyH.nil
      go_simp
      refine hK.out _ _ hSw (fun hSn => ?_)
      clear hK K hSw
      have hSw := hSn
      clear hSn
      go_simp
      refine wpAnyH_done (by kernel_rfl) ?_ _
      have hbv : BoxO _ 31 w2.heap.size ve.cells := hbv
      obtain ⟨gb, hgb0, hgb⟩ : ∃ g, g = w2.heap.size ∧ w2.heap.size ≤ g := ⟨_, rfl, Nat.le_refl _⟩
      generalize ((((((w5.setCell ⟨w2.heap.size, 0, none⟩ (.int .i64 (ve.g : Int))).setCell ⟨w2.heap.size, 1, none⟩ (.slice none 0 0)).setCell ⟨w2.heap.size, 2, none⟩ (.int .u64 (ve.f : Int))).setCell ⟨w2.heap.size, 3, none⟩ (.int .u64 (ve.c : Int))).setCell ⟨w2.heap.size, 4, none⟩ (.int .u64 (ve.a : Int))).setCell ⟨w2.heap.size, 5, none⟩ (.int .u64 (ve.l : Int))) = W at *
      clear hbz5 hbz hb5 w5
      rw [← hgb0] at hbv ⊢
      clear hgb0
    all_goals
      have h3 := h2.below hSw
      have h4 := (h3.below (below_drew (Below.refl _ _))).anew
      have hbx5 : BoxO W.drew 31 gb ve.cells := hbv
      have hrow := Lib.hid ((((Row.own hown).below hSw).drew).arg (B := w2.heap.size) hSw.size)
      have hA : ∀ a, A = some a → a.block ∉ X.foot := fun a ha hm => by
        obtain ⟨A', c', e', _, _, h6⟩ := own_form hown
        injection e' with e' _ _
        have h7 := (h6 a (by rw [← e']; exact ha)).1
        have h8 := h1.acc.dm.dk.lt _ hm
        omega
      have hKl : K ≤ 1099511627776 := by
        have e1 := (Row.own hown).btlen
        have := recB_len e
        omega
      have hmgb : ¬ m = gb := by
        have := h2.man.lt
        omega
      have hgbX : gb ∉ [m] ++ X.foot := fun hm => by
        rcases List.mem_append.1 hm with h5 | h5
        · exact hmgb (List.mem_singleton.1 h5).symm
        · have := h2.acc.dm.dk.lt _ h5
          omega
      have hap := h4.append (str M.name) (by rw [str_size]; unfold maxLen; omega) A K c (Mw.recB e) hKl hrow.out hA
      rw [list_str] at hap
      have HAP := Lib.hid hap
      have d0 := h3.man.cell 0
      have d1 := h3.man.cell 1
      simp only [Ms.cells, List.getElem?_cons_zero, List.getElem?_cons_succ] at d0 d1
      have HSW := Lib.hid hSw
      have HB5 := Lib.hid hbx5
      have HGX := Lib.hid hgbX
      clear hap hown hA hKl hrow hbx hbx2 y0 y1 y2 y3 y4 y5 y6 hSw hbv hbe h0 h1 hbx5 hgbX
      generalize S.append M.name (Mw.recB e) = P at *
      obtain ⟨S1, e1⟩ := P
      simp only at HTT
      go_wp2
      go_still_tail 9, (by kernel_rfl)
      change wpList _ _ _ _ _ (World.drew W)
      go_wp2_with fail
      refine HAP.out.mono ?_
      rintro e6 w6 ⟨rfl, X6, h6⟩
      by_cases q1 : e1 = 0
      case neg =>
        have hne := neq0 q1
        have hh := HTT.out
        rw [if_pos q1] at hh
        have hl := Lib.hid (Left.mk_ hh ((h3.below (below_drew (Below.refl _ _))).trans h6))
        clear hh
        go_wp2
        go_ret
        exact hl.out
      subst q1
      have HT2 : Hid (R = if (S1.sync M.name).2 ≠ 0 then ((S1.sync M.name).1, { M with count := M.count + 1, v := ve, broken := true }, (S1.sync M.name).2) else ((S1.sync M.name).1, { M with count := M.count + 1, v := ve }, 0)) := HTT.out.trans (if_neg (by simp))
      have hbx6 := HB5.out.chg h6.acc.c HGX.out
      have x0 := hbx6.cell 0
      have x1 := hbx6.cell 1
      have x2 := hbx6.cell 2
      have x3 := hbx6.cell 3
      have x4 := hbx6.cell 4
      have x5 := hbx6.cell 5
      have d2 := h6.man.cell 2
      have d3 := h6.man.cell 3
      have d4 := h6.man.cell 4
      have d5 := h6.man.cell 5
      have d6 := h6.man.cell 6
      have d7 := h6.man.cell 7
      have d8 := h6.man.cell 8
      have f2 := h6.man.free 2
      have f3 := h6.man.free 3
      have f4 := h6.man.free 4
      have f5 := h6.man.free 5
      have f6 := h6.man.free 6
      have f7 := h6.man.free 7
      have f8 := h6.man.free 8
      simp only [Ms.cells, Bv.cells, List.getElem?_cons_zero, List.getElem?_cons_succ] at x0 x1 x2 x3 x4 x5 d2 d3 d4 d5 d6 d7 d8
      have hmk : MK (((((((w6.setCell ⟨m, 8, none⟩ (.int .i64 ((M.count : Int) + 1))).setCell ⟨m, 2, none⟩ (.int .i64 (ve.g : Int))).setCell ⟨m, 3, none⟩ (.slice none 0 0)).setCell ⟨m, 4, none⟩ (.int .u64 (ve.f : Int))).setCell ⟨m, 5, none⟩ (.int .u64 (ve.c : Int))).setCell ⟨m, 6, none⟩ (.int .u64 (ve.a : Int))).setCell ⟨m, 7, none⟩ (.int .u64 (ve.l : Int))) m X.d { M with count := M.count + 1, v := ve } :=
        (((((((h6.man.store 8 (.int .i64 ((M.count : Int) + 1))).store 2 (.int .i64 (ve.g : Int))).store 3 (.slice none 0 0)).store 4 (.int .u64 (ve.f : Int))).store 5 (.int .u64 (ve.c : Int))).store 6 (.int .u64 (ve.a : Int))).store 7 (.int .u64 (ve.l : Int)))
      have hcm6 : Chg [m] w6 (((((((w6.setCell ⟨m, 8, none⟩ (.int .i64 ((M.count : Int) + 1))).setCell ⟨m, 2, none⟩ (.int .i64 (ve.g : Int))).setCell ⟨m, 3, none⟩ (.slice none 0 0)).setCell ⟨m, 4, none⟩ (.int .u64 (ve.f : Int))).setCell ⟨m, 5, none⟩ (.int .u64 (ve.c : Int))).setCell ⟨m, 6, none⟩ (.int .u64 (ve.a : Int))).setCell ⟨m, 7, none⟩ (.int .u64 (ve.l : Int))) :=
        (((((((Chg.refl [m] w6).setCell _ (.inl (by simp))).setCell _ (.inl (by simp))).setCell _ (.inl (by simp))).setCell _ (.inl (by simp))).setCell _ (.inl (by simp))).setCell _ (.inl (by simp))).setCell _ (.inl (by simp))
      have h7 := Lib.hid (((h3.below (below_drew (Below.refl _ _))).trans h6).turn hcm6 hmk)
      clear hmk hcm6 hbx6 h6 HTT HAP h4 h3 HB5 HGX
      have D0 := h7.out.man.cell 0
      have D1 := h7.out.man.cell 1
      simp only [Ms.cells, List.getElem?_cons_zero, List.getElem?_cons_succ] at D0 D1
      go_wp2
      generalize (((((((w6.setCell ⟨m, 8, none⟩ (.int .i64 ((M.count : Int) + 1))).setCell ⟨m, 2, none⟩ (.int .i64 (ve.g : Int))).setCell ⟨m, 3, none⟩ (.slice none 0 0)).setCell ⟨m, 4, none⟩ (.int .u64 (ve.f : Int))).setCell ⟨m, 5, none⟩ (.int .u64 (ve.c : Int))).setCell ⟨m, 6, none⟩ (.int .u64 (ve.a : Int))).setCell ⟨m, 7, none⟩ (.int .u64 (ve.l : Int))) = V7 at *
      clear x0 x1 x2 x3 x4 x5 d2 d3 d4 d5 d6 d7 d8 f2 f3 f4 f5 f6 f7 f8 d0 d1
      have h8 := h7.out.below (below_drew (Below.refl _ _))
      have hsy := h8.sync (str M.name) (by rw [str_size]; unfold maxLen; omega)
      rw [list_str] at hsy
      have HSY := Lib.hid hsy
      clear hsy h8
      generalize S1.sync M.name = P at *
      obtain ⟨S2, e2⟩ := P
      go_still_tail 8, (by kernel_rfl)
      change wpList _ _ _ _ _ (World.drew V7)
      go_wp2_with fail
      refine HSY.out.mono ?_
      rintro e9 w9 ⟨rfl, X9, h9⟩
      by_cases q2 : e2 = 0
      case neg =>
        have hne := neq0 q2
        have hh : R = (S2, { M with count := M.count + 1, v := ve, broken := true }, e2) := HT2.out.trans (if_pos q2)
        have HH := Lib.hid hh
        clear hh
        go_wp2_with fail
        refine h9.break_.mono ?_
        rintro e10 w10 ⟨rfl, h10⟩
        have hl := Lib.hid (Left.mk_ HH.out h10)
        go_wp2
        go_ret
        exact hl.out
      subst q2
      have hl := Lib.hid (Left.mk_ (HT2.out.trans (if_neg (by simp))) h9)
      go_wp2
      go_ret
      exact hl.out
end Go.Proofs.YthepokgkfaocmaaGreatDoor
