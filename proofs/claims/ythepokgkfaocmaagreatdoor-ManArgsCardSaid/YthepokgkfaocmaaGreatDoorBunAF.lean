/- Texts LawArgs in one. No conditions. -/
import Derived.Test.YthepokgkfaocmaaGreatDoorBunAD
import Derived.Test.YthepokgkfaocmaaGreatDoorBunAE
import Derived.Test.YthepokgkfaocmaaGreatDoorBunV
import Derived.Deep.RegionHeld3

/-
  The walk of ManArgs.
-/
namespace Go.Proofs.YthepokgkfaocmaaGreatDoor
open Go Go.RowKit Go.Shelf

def v1g : Vw := ⟨1, [], 0, 0, 0, 0⟩
theorem v1g_val : v1g.val none 0 0 = .agg #[.int .i64 1, .slice none 0 0, .int .u64 0, .int .u64 0, .int .u64 0, .int .u64 0] := rfl

set_option maxRecDepth 100000 in
set_option maxHeartbeats 2000000 in
theorem manArgs_bad (v : Vw) (A : Option Addr) (n c : Nat) (w : World) (he : Env w) (hv : v.ok = false) (hn : n ≤ 60) (hnc : n ≤ c) (hcm : c ≤ maxLen) (hr : Row w.heap.size w A n 2 (fcells v.files)) :
    Calls Tryz.prog 8 #[v.val A n c] w fun e w' => e = .returned (.bool true) ∧ Below w.heap.size w w' := by
  have hb0 := (Below.refl w.heap.size w).alloc (Nat.le_refl _) (.cells #[.int .i64 v.log, .slice A n c, .int .u64 (v.floor : Int), .int .u64 (v.cert : Int), .int .u64 (v.at_ : Int), .int .u64 (v.lease : Int)] 31)
  have hbx := BoxO.new w #[.int .i64 v.log, .slice A n c, .int .u64 (v.floor : Int), .int .u64 (v.cert : Int), .int .u64 (v.at_ : Int), .int .u64 (v.lease : Int)] 31
  have hdn := fun W => dnew_any 1048576 W
  have HE := Lib.hid (he.below hb0)
  have hgn := fun xd W (hb : Below w.heap.size w W) => gnew_bad xd v A n c hv W (by omega) hnc hcm ((hr.below hb).up hb.size)
  have hvo := fun W (hb : Below w.heap.size w W) => viewok_any v A n c W (by omega) ((hr.below hb).up hb.size)
  have hnn := fun W => gnew_nil v1g none 0 0 W
  simp only [v1g_val] at hnn
  rw [hv] at hvo
  unfold Vw.val at *
  have HGN := Lib.hid hgn
  have HVO := Lib.hid hvo
  have HNN := Lib.hid hnn
  have hn60 : ((60 : Int) < (n : Int)) = False := by simp; omega
  clear hgn hvo hnn he hv hr
  go_enter Tryz.func8, Tryz.ntmps8
  have q1 := hbx.cell 1
  simp only [List.getElem?_cons_zero, List.getElem?_cons_succ] at q1
  go_wp2_with fail
  refine (hdn _).mono ?_
  rintro e w1 ⟨X, rfl, -, hb1, -⟩
  have hb01 := later_ hb0 hb1
  have hbx1 := hbx.below hb1
  have he1 := HE.out.below hb1
  clear hdn hb0 hb1 q1 HE hbx
  have q0 := hbx1.cell 0
  have q1 := hbx1.cell 1
  have q2 := hbx1.cell 2
  have q3 := hbx1.cell 3
  have q4 := hbx1.cell 4
  have q5 := hbx1.cell 5
  simp only [List.getElem?_cons_zero, List.getElem?_cons_succ] at q0 q1 q2 q3 q4 q5
  go_wp2_with fail
  refine (HGN.out _ _ hb01).mono ?_
  rintro e w2 ⟨rfl, hb2⟩
  have hb02 := later_ hb01 hb2
  have hbx2 := hbx1.below hb2
  have he2 := he1.below hb2
  clear hb01 hb2 q0 q1 q2 q3 q4 q5 hbx1 he1
  have q0 := hbx2.cell 0
  have q1 := hbx2.cell 1
  have q2 := hbx2.cell 2
  have q3 := hbx2.cell 3
  have q4 := hbx2.cell 4
  have q5 := hbx2.cell 5
  simp only [List.getElem?_cons_zero, List.getElem?_cons_succ] at q0 q1 q2 q3 q4 q5
  go_wp2_with fail
  refine (HVO.out _ hb02).mono ?_
  rintro e w3 ⟨rfl, hb3⟩
  have hb03 := later_ hb02 hb3
  have he3 := he2.below hb3
  clear hb02 hb3 q0 q1 q2 q3 q4 q5 hbx2 he2
  go_wp2_with fail
  refine (HNN.out _).mono ?_
  rintro e w4 ⟨rfl, hb4⟩
  have hb04 := later_ hb03 hb4
  have he4 := he3.below hb4
  clear hb03 hb4 he3
  go_wp2_with fail
  refine (gopen_nil _).mono ?_
  rintro e w5 ⟨rfl, rfl⟩
  have haw : ∀ w', Below w4.heap.size w4 w' → _ := fun w' hb => awake_any w' (he4.below hb)
  have HAW := Lib.hid haw
  have HBE := Lib.hid hb04
  clear haw HGN HVO HNN hb04 he4 hn60
  generalize w4 = V at *
  go_wp2_with fail
  refine wp_region_held_drew (S := fun w' => Below V.heap.size V w') rfl (below_drew (Below.refl _ _)) (fun hSw => ?_)
  refine wpAnyH_take (i := 0) (v := ?v0) rfl (by kernel_rfl) (by kernel_rfl) (by kernel_rfl) (fun _ _ _ h => h) (Or.inl ⟨by rfl, ?h0⟩) hSw ?k0
  case h0 => (intro w hSw; skip; go_simp; try (with_reducible rfl))
  go_simp
  refine wpAnyH_take (i := 1) (v := ?v1) rfl (by kernel_rfl) (by kernel_rfl) (by kernel_rfl) (fun _ _ _ h => h) (Or.inl ⟨by rfl, ?h1⟩) hSw ?k1
  case h1 => (intro w hSw; skip; go_simp; try (with_reducible rfl))
  go_simp
  refine wpAnyH_take (i := 2) (v := ?v2) rfl (by kernel_rfl) (by kernel_rfl) (by kernel_rfl) (fun _ _ _ h => h) (Or.inl ⟨by rfl, ?h2⟩) hSw ?k2
  case h2 => (intro w hSw; skip; go_simp; try (with_reducible rfl))
  go_simp
  refine wpAnyH_take (i := 3) (v := undef) rfl (by kernel_rfl) (by kernel_rfl) (by kernel_rfl) (fun _ _ _ h => h) (Or.inr ⟨by rfl, rfl⟩) hSw ?_
  go_simp
  refine wpAnyH_take (i := 4) (v := undef) rfl (by kernel_rfl) (by kernel_rfl) (by kernel_rfl) (fun _ _ _ h => h) (Or.inr ⟨by rfl, rfl⟩) hSw ?_
  go_simp
  refine wpAnyH_take (i := 5) (v := undef) rfl (by kernel_rfl) (by kernel_rfl) (by kernel_rfl) (fun _ _ _ h => h) (Or.inr ⟨by rfl, rfl⟩) hSw ?_
  go_simp
  refine wpAnyH_take (i := 6) (v := undef) rfl (by kernel_rfl) (by kernel_rfl) (by kernel_rfl) (fun _ _ _ h => h) (Or.inr ⟨by rfl, rfl⟩) hSw ?_
  go_simp
  refine wpAnyH_take (i := 7) (v := undef) rfl (by kernel_rfl) (by kernel_rfl) (by kernel_rfl) (fun _ _ _ h => h) (Or.inr ⟨by rfl, rfl⟩) hSw ?_
  go_simp
  refine wpAnyH_take (i := 8) (v := undef) rfl (by kernel_rfl) (by kernel_rfl) (by kernel_rfl) (fun _ _ _ h => h) (Or.inr ⟨by rfl, rfl⟩) hSw ?_
  go_simp
  refine wpAnyH_take (i := 9) (v := undef) rfl (by kernel_rfl) (by kernel_rfl) (by kernel_rfl) (fun _ _ _ h => h) (Or.inr ⟨by rfl, rfl⟩) hSw ?_
  go_simp
  refine wpAnyH_take (i := 10) (v := undef) rfl (by kernel_rfl) (by kernel_rfl) (by kernel_rfl) (fun _ _ _ h => h) (Or.inr ⟨by rfl, rfl⟩) hSw ?_
  go_simp
  refine wpAnyH_take (i := 11) (v := undef) rfl (by kernel_rfl) (by kernel_rfl) (by kernel_rfl) (fun _ _ _ h => h) (Or.inr ⟨by rfl, rfl⟩) hSw ?_
  go_simp
  refine wpAnyH_take (i := 12) (v := undef) rfl (by kernel_rfl) (by kernel_rfl) (by kernel_rfl) (fun _ _ _ h => h) (Or.inr ⟨by rfl, rfl⟩) hSw ?_
  go_simp
  refine wpAnyH_take (i := 13) (v := undef) rfl (by kernel_rfl) (by kernel_rfl) (by kernel_rfl) (fun _ _ _ h => h) (Or.inr ⟨by rfl, rfl⟩) hSw ?_
  go_simp
  refine wpAnyH_take (i := 14) (v := undef) rfl (by kernel_rfl) (by kernel_rfl) (by kernel_rfl) (fun _ _ _ h => h) (Or.inr ⟨by rfl, rfl⟩) hSw ?_
  go_simp
  refine wpAnyH_take (i := 15) (v := undef) rfl (by kernel_rfl) (by kernel_rfl) (by kernel_rfl) (fun _ _ _ h => h) (Or.inr ⟨by rfl, rfl⟩) hSw ?_
  go_simp
  refine wpAnyH_take (i := 16) (v := undef) rfl (by kernel_rfl) (by kernel_rfl) (by kernel_rfl) (fun _ _ _ h => h) (Or.inr ⟨by rfl, rfl⟩) hSw ?_
  go_simp
  refine wpAnyH_take (i := 17) (v := ?v17) rfl (by kernel_rfl) (by kernel_rfl) (by kernel_rfl) (fun _ _ _ h => h) (Or.inl ⟨by rfl, ?h17⟩) hSw ?k17
  case h17 => (intro w hSw; skip; go_simp; try (with_reducible rfl))
  go_simp
  refine wpAnyH_take (i := 18) (v := ?v18) rfl (by kernel_rfl) (by kernel_rfl) (by kernel_rfl) (fun _ _ _ h => h) (Or.inl ⟨by rfl, ?h18⟩) hSw ?k18
  case h18 => (intro w hSw; skip; go_simp; try (with_reducible rfl))
  go_simp
  refine wpAnyH_ready (rs := [19]) (by kernel_rfl) (by simp) ?_
  refine AllReadyH.cons rfl (fun K hK => ?_) AllReadyH.nil
  go_simp
  with_reducible refine (HAW.out _ hSw).mono ?_
  rintro e19 w19 ⟨rfl, hb19⟩
  go_simp
  refine hK.out _ _ (hSw.trans (hb19.mono hSw.size)) (fun hSn => ?_)
  clear hK K hSw
  have hSw := hSn
  clear hSn
  go_simp
  refine wpAnyH_take (i := 20) (v := ?v20) rfl (by kernel_rfl) (by kernel_rfl) (by kernel_rfl) (fun _ _ _ h => h) (Or.inl ⟨by rfl, ?h20⟩) hSw ?k20
  case h20 => (intro w hSw; skip; go_simp; try (with_reducible rfl))
  go_simp
  refine wpAnyH_take (i := 21) (v := ?v21) rfl (by kernel_rfl) (by kernel_rfl) (by kernel_rfl) (fun _ _ _ h => h) (Or.inl ⟨by rfl, ?h21⟩) hSw ?k21
  case h21 => (intro w hSw; skip; go_simp; try (with_reducible rfl))
  go_simp
  refine wpAnyH_done (by kernel_rfl) ?_ _
  have hfin := HBE.out.trans (hSw.mono HBE.out.size)
  clear hSw
  go_wp2
  go_ret
  exact ⟨rfl, hfin⟩
set_option maxRecDepth 100000 in
set_option maxHeartbeats 2000000 in
theorem manArgs_good (v : Vw) (A : Option Addr) (n c : Nat) (w : World) (he : Env w) (hv : v.ok = true) (hn : n ≤ 60) (hnc : n ≤ c) (hcm : c ≤ maxLen) (hr : Row w.heap.size w A n 2 (fcells v.files)) :
    Calls Tryz.prog 8 #[v.val A n c] w fun e w' => e = .returned (.bool true) ∧ Below w.heap.size w w' := by
  have hb0 := (Below.refl w.heap.size w).alloc (Nat.le_refl _) (.cells #[.int .i64 v.log, .slice A n c, .int .u64 (v.floor : Int), .int .u64 (v.cert : Int), .int .u64 (v.at_ : Int), .int .u64 (v.lease : Int)] 31)
  have hbx := BoxO.new w #[.int .i64 v.log, .slice A n c, .int .u64 (v.floor : Int), .int .u64 (v.cert : Int), .int .u64 (v.at_ : Int), .int .u64 (v.lease : Int)] 31
  have hng := he.base
  have HE := Lib.hid (he.below hb0)
  generalize hV0 : w.alloc (.cells #[.int .i64 v.log, .slice A n c, .int .u64 (v.floor : Int), .int .u64 (v.cert : Int), .int .u64 (v.at_ : Int), .int .u64 (v.lease : Int)] 31) = V0 at *
  have hdn := dnew_any 1048576 V0
  have hvo := fun W (hb : Below w.heap.size w W) => viewok_any v A n c W (by omega) ((hr.below hb).up hb.size)
  have hnn := fun W => gnew_nil v1g none 0 0 W
  simp only [v1g_val] at hnn
  rw [hv] at hvo
  obtain ⟨n1, n2, n3, n4⟩ := Gw.rewrite_new (M := ⟨[], v, 0, false⟩) (k := 1) hv (Calm.new 1048576 (by omega)) (by omega) (by omega) (Calm.cont_new _) (by decide)
  have hgn := fun X w1 (hdm : Dm w1 X (Sd.new 1048576)) hr1 => gnew_any v A n c hv (by omega) hnc hcm (w := w1) hr1 (by decide) hdm _ rfl (show (Gw.rewrite (Sd.new 1048576) ⟨[], v, 0, false⟩ (Mw.man 1)).2.2 = 0 by rw [n4])
  have e0 : (Gw.rewrite (Sd.new 1048576) ⟨[], v, 0, false⟩ (Mn.name Mn.kMan 1)) = Gw.rewrite (Sd.new 1048576) ⟨[], v, 0, false⟩ (Mw.man 1) := rfl
  rw [e0, n4] at hgn
  generalize (Gw.rewrite (Sd.new 1048576) ⟨[], v, 0, false⟩ (Mw.man 1)).1 = S1 at *
  simp only at hgn
  have hsm := fun A2 c2 W (hb : Below w.heap.size w W) hr2 => sameview_any v v A2 n c2 A n c W (by omega) (by omega) hr2 ((hr.below hb).up hb.size)
  rw [Vw.same_self] at hsm
  have hmv : ∀ m X P W, GK W m X ⟨Mw.man 1, v, 1, false⟩ P → Row W.heap.size W P.a P.n 2 (fcells v.files) → P.n ≤ 10000 → _ := fun m X P W h1 h2 h3 => gmview_any (w := W) X h1 h2 h3
  simp only at hmv
  unfold Vw.val at *
  have HGN := Lib.hid hgn
  have HVO := Lib.hid hvo
  have HNN := Lib.hid hnn
  have HSMV := Lib.hid hsm
  have HMV := Lib.hid hmv
  have HR := Lib.hid hr
  have hfl := hr.flen
  have hn60 : ((60 : Int) < (n : Int)) = False := by simp; omega
  clear hgn hvo hnn he hv hsm hmv n4 e0 hr
  go_enter Tryz.func8, Tryz.ntmps8
  have q1 := hbx.cell 1
  simp only [List.getElem?_cons_zero, List.getElem?_cons_succ] at q1
  go_wp2_with fail
  refine hdn.mono ?_
  rintro e w1 ⟨X, rfl, hdk, hb1, hfo⟩
  have hdm := dm_new (by omega) HE.out hdk hb1 hfo
  have hb01 := later_ hb0 hb1
  have hbx1 := hbx.below hb1
  have hfo' : ∀ g ∈ X.foot, w.heap.size ≤ g := fun g hg => Nat.le_trans hb0.size (hfo g hg)
  have hgn := HGN.out X w1 hdm ((HR.out.below hb01).up hb01.size)
  have hbxn : w.heap.size ∉ X.foot := fun hm => by
    have h1 := hfo _ hm
    have h2 := hbx.lt
    omega
  have HGN1 := Lib.hid hgn
  clear hdn hb0 hb1 q1 HE hbx hdk HGN hgn
  have q0 := hbx1.cell 0
  have q1 := hbx1.cell 1
  have q2 := hbx1.cell 2
  have q3 := hbx1.cell 3
  have q4 := hbx1.cell 4
  have q5 := hbx1.cell 5
  simp only [List.getElem?_cons_zero, List.getElem?_cons_succ] at q0 q1 q2 q3 q4 q5
  go_wp2_with fail
  refine HGN1.out.mono ?_
  rintro e w2 ⟨P, m, X2, rfl, hbn⟩
  have hat := gat_born hfo' hb01 hbn
  have hbx2 := hbx1.chg hbn.c hbxn
  have hxd := hbn.e
  clear hb01 hbn q0 q1 q2 q3 q4 q5 hbx1 hfo hfo' hdm HGN1 hbxn
  have q0 := hbx2.cell 0
  have q1 := hbx2.cell 1
  have q2 := hbx2.cell 2
  have q3 := hbx2.cell 3
  have q4 := hbx2.cell 4
  have q5 := hbx2.cell 5
  simp only [List.getElem?_cons_zero, List.getElem?_cons_succ] at q0 q1 q2 q3 q4 q5
  go_wp2_with fail
  refine (HVO.out _ hat.bel).mono ?_
  rintro e w3 ⟨rfl, hb3⟩
  have hat3 := hat.below hb3
  have hbx3 := hbx2.below hb3
  clear hb3 q0 q1 q2 q3 q4 q5 hbx2 hat
  go_wp2_with fail
  refine (HNN.out _).mono ?_
  rintro e w4 ⟨rfl, hb4⟩
  have hat4 := hat3.below hb4
  have hbx4 := hbx3.below hb4
  clear hb4 hat3 hbx3
  go_wp2_with fail
  refine (gopen_nil _).mono ?_
  rintro e w5 ⟨rfl, rfl⟩
  have hPn : P.n = n := by
    have h1 := hat4.row.row.flen
    simp only at h1
    omega
  have hKC : ∀ w' : World, Below w4.heap.size w4 w' → w'.cell? ⟨w.heap.size, 0, none⟩ = some (.int .i64 v.log) ∧ w'.cell? ⟨w.heap.size, 1, none⟩ = some (.slice A n c) ∧ w'.cell? ⟨w.heap.size, 2, none⟩ = some (.int .u64 (v.floor : Int)) ∧ w'.cell? ⟨w.heap.size, 3, none⟩ = some (.int .u64 (v.cert : Int)) ∧ w'.cell? ⟨w.heap.size, 4, none⟩ = some (.int .u64 (v.at_ : Int)) ∧ w'.cell? ⟨w.heap.size, 5, none⟩ = some (.int .u64 (v.lease : Int)) := fun w' hb => by
    have hB := hbx4.below hb
    exact ⟨hB.cell 0, hB.cell 1, hB.cell 2, hB.cell 3, hB.cell 4, hB.cell 5⟩
  have KC := Lib.hid hKC
  have hvw : ∀ w', Below w4.heap.size w4 w' → _ := fun w' hb => HMV.out m X2.d P w' (hat4.below hb).man (hat4.below hb).row.row (hat4.below hb).row.nb
  have hsm : ∀ A2 c2 w', Below w4.heap.size w4 w' → Row w'.heap.size w' A2 n 2 (fcells v.files) → _ := fun A2 c2 w' hb h2 => HSMV.out A2 c2 w' (hat4.below hb).bel h2
  have hct : ∀ w', Below w4.heap.size w4 w' → _ := fun w' hb => gmcount_any X2.d (hat4.below hb).man
  have hbk : ∀ w', Below w4.heap.size w4 w' → _ := fun w' hb => gmbroken_any X2.d (hat4.below hb).man
  have haw : ∀ w', Below w4.heap.size w4 w' → _ := fun w' hb => awake_any w' (hat4.below hb).dm.env
  rw [hPn] at hvw
  have HVW := Lib.hid hvw
  have HSM := Lib.hid hsm
  have HCT := Lib.hid hct
  have HBK := Lib.hid hbk
  have HAW := Lib.hid haw
  have HBE := Lib.hid hat4.bel
  clear hKC hvw hsm hct hbk haw hbx4 HMV HSMV HVO HNN hat4 hn60
  generalize w4 = V at *
  go_wp2_with fail
  refine wp_region_held_drew (S := fun w' => Below V.heap.size V w') rfl (below_drew (Below.refl _ _)) (fun hSw => ?_)
  refine wpAnyH_take (i := 0) (v := ?v0) rfl (by kernel_rfl) (by kernel_rfl) (by kernel_rfl) (fun _ _ _ h => h) (Or.inl ⟨by rfl, ?h0⟩) hSw ?k0
  case h0 => (intro w hSw; obtain ⟨y0, y1, y2, y3, y4, y5⟩ := KC.out w hSw; go_simp; try (with_reducible rfl))
  go_simp
  refine wpAnyH_take (i := 1) (v := ?v1) rfl (by kernel_rfl) (by kernel_rfl) (by kernel_rfl) (fun _ _ _ h => h) (Or.inl ⟨by rfl, ?h1⟩) hSw ?k1
  case h1 => (intro w hSw; obtain ⟨y0, y1, y2, y3, y4, y5⟩ := KC.out w hSw; go_simp; try (with_reducible rfl))
  go_simp
  refine wpAnyH_take (i := 2) (v := ?v2) rfl (by kernel_rfl) (by kernel_rfl) (by kernel_rfl) (fun _ _ _ h => h) (Or.inl ⟨by rfl, ?h2⟩) hSw ?k2
  case h2 => (intro w hSw; obtain ⟨y0, y1, y2, y3, y4, y5⟩ := KC.out w hSw; go_simp; try (with_reducible rfl))
  go_simp
  refine wpAnyH_take (i := 3) (v := ?v3) rfl (by kernel_rfl) (by kernel_rfl) (by kernel_rfl) (fun _ _ _ h => h) (Or.inl ⟨by rfl, ?h3⟩) hSw ?k3
  case h3 => (intro w hSw; obtain ⟨y0, y1, y2, y3, y4, y5⟩ := KC.out w hSw; go_simp; try (with_reducible rfl))
  go_simp
  refine wpAnyH_take (i := 5) (v := ?v5) rfl (by kernel_rfl) (by kernel_rfl) (by kernel_rfl) (fun _ _ _ h => h) (Or.inl ⟨by rfl, ?h5⟩) hSw ?k5
  case h5 => (intro w hSw; obtain ⟨y0, y1, y2, y3, y4, y5⟩ := KC.out w hSw; go_simp; try (with_reducible rfl))
  go_simp
  refine wpAnyH_ready (rs := [4]) (by kernel_rfl) (by simp) ?_
  refine AllReadyH.cons rfl (fun K hK => ?_) AllReadyH.nil
  go_simp
  with_reducible refine (HVW.out _ hSw).mono ?_
  rintro e4 w4 ⟨A4, c4, rfl, hfr4, hb4⟩
  go_simp
  refine hK.out _ _ (hSw.trans (hb4.mono hSw.size)) (fun hSn => ?_)
  clear hK K hSw
  have hSw := hSn
  clear hSn
  go_simp
  refine wpAnyH_ready (rs := [6]) (by kernel_rfl) (by simp) ?_
  refine AllReadyH.cons rfl (fun K hK => ?_) AllReadyH.nil
  go_simp
  with_reducible refine (HSM.out A4 c4 _ hSw hfr4.row).mono ?_
  rintro e6 w6 ⟨rfl, hb6⟩
  go_simp
  refine hK.out _ _ (hSw.trans (hb6.mono hSw.size)) (fun hSn => ?_)
  clear hK K hSw
  have hSw := hSn
  clear hSn
  go_simp
  refine wpAnyH_take (i := 7) (v := ?v7) rfl (by kernel_rfl) (by kernel_rfl) (by kernel_rfl) (fun _ _ _ h => h) (Or.inl ⟨by rfl, ?h7⟩) hSw ?k7
  case h7 => (intro w hSw; obtain ⟨y0, y1, y2, y3, y4, y5⟩ := KC.out w hSw; go_simp; try (with_reducible rfl))
  go_simp
  refine wpAnyH_take (i := 8) (v := ?v8) rfl (by kernel_rfl) (by kernel_rfl) (by kernel_rfl) (fun _ _ _ h => h) (Or.inl ⟨by rfl, ?h8⟩) hSw ?k8
  case h8 => (intro w hSw; obtain ⟨y0, y1, y2, y3, y4, y5⟩ := KC.out w hSw; go_simp; try (with_reducible rfl))
  go_simp
  refine wpAnyH_ready (rs := [9]) (by kernel_rfl) (by simp) ?_
  refine AllReadyH.cons rfl (fun K hK => ?_) AllReadyH.nil
  go_simp
  with_reducible refine (HCT.out _ hSw).mono ?_
  rintro e9 w9 ⟨rfl, rfl⟩
  go_simp
  refine hK.out _ _ hSw (fun hSn => ?_)
  clear hK K hSw
  have hSw := hSn
  clear hSn
  go_simp
  refine wpAnyH_take (i := 10) (v := ?v10) rfl (by kernel_rfl) (by kernel_rfl) (by kernel_rfl) (fun _ _ _ h => h) (Or.inl ⟨by rfl, ?h10⟩) hSw ?k10
  case h10 => (intro w hSw; obtain ⟨y0, y1, y2, y3, y4, y5⟩ := KC.out w hSw; go_simp; try (with_reducible rfl))
  go_simp
  refine wpAnyH_take (i := 11) (v := ?v11) rfl (by kernel_rfl) (by kernel_rfl) (by kernel_rfl) (fun _ _ _ h => h) (Or.inl ⟨by rfl, ?h11⟩) hSw ?k11
  case h11 => (intro w hSw; obtain ⟨y0, y1, y2, y3, y4, y5⟩ := KC.out w hSw; go_simp; try (with_reducible rfl))
  go_simp
  refine wpAnyH_take (i := 12) (v := ?v12) rfl (by kernel_rfl) (by kernel_rfl) (by kernel_rfl) (fun _ _ _ h => h) (Or.inl ⟨by rfl, ?h12⟩) hSw ?k12
  case h12 => (intro w hSw; obtain ⟨y0, y1, y2, y3, y4, y5⟩ := KC.out w hSw; go_simp; try (with_reducible rfl))
  go_simp
  refine wpAnyH_take (i := 13) (v := ?v13) rfl (by kernel_rfl) (by kernel_rfl) (by kernel_rfl) (fun _ _ _ h => h) (Or.inl ⟨by rfl, ?h13⟩) hSw ?k13
  case h13 => (intro w hSw; obtain ⟨y0, y1, y2, y3, y4, y5⟩ := KC.out w hSw; go_simp; try (with_reducible rfl))
  go_simp
  refine wpAnyH_ready (rs := [14]) (by kernel_rfl) (by simp) ?_
  refine AllReadyH.cons rfl (fun K hK => ?_) AllReadyH.nil
  go_simp
  with_reducible refine (HBK.out _ hSw).mono ?_
  rintro e14 w14 ⟨rfl, rfl⟩
  go_simp
  refine hK.out _ _ hSw (fun hSn => ?_)
  clear hK K hSw
  have hSw := hSn
  clear hSn
  go_simp
  refine wpAnyH_take (i := 15) (v := ?v15) rfl (by kernel_rfl) (by kernel_rfl) (by kernel_rfl) (fun _ _ _ h => h) (Or.inl ⟨by rfl, ?h15⟩) hSw ?k15
  case h15 => (intro w hSw; obtain ⟨y0, y1, y2, y3, y4, y5⟩ := KC.out w hSw; go_simp; try (with_reducible rfl))
  go_simp
  refine wpAnyH_take (i := 16) (v := ?v16) rfl (by kernel_rfl) (by kernel_rfl) (by kernel_rfl) (fun _ _ _ h => h) (Or.inl ⟨by rfl, ?h16⟩) hSw ?k16
  case h16 => (intro w hSw; obtain ⟨y0, y1, y2, y3, y4, y5⟩ := KC.out w hSw; go_simp; try (with_reducible rfl))
  go_simp
  refine wpAnyH_take (i := 17) (v := ?v17) rfl (by kernel_rfl) (by kernel_rfl) (by kernel_rfl) (fun _ _ _ h => h) (Or.inl ⟨by rfl, ?h17⟩) hSw ?k17
  case h17 => (intro w hSw; obtain ⟨y0, y1, y2, y3, y4, y5⟩ := KC.out w hSw; go_simp; try (with_reducible rfl))
  go_simp
  refine wpAnyH_take (i := 18) (v := ?v18) rfl (by kernel_rfl) (by kernel_rfl) (by kernel_rfl) (fun _ _ _ h => h) (Or.inl ⟨by rfl, ?h18⟩) hSw ?k18
  case h18 => (intro w hSw; obtain ⟨y0, y1, y2, y3, y4, y5⟩ := KC.out w hSw; go_simp; try (with_reducible rfl))
  go_simp
  refine wpAnyH_ready (rs := [19]) (by kernel_rfl) (by simp) ?_
  refine AllReadyH.cons rfl (fun K hK => ?_) AllReadyH.nil
  go_simp
  with_reducible refine (HAW.out _ hSw).mono ?_
  rintro e19 w19 ⟨rfl, hb19⟩
  go_simp
  refine hK.out _ _ (hSw.trans (hb19.mono hSw.size)) (fun hSn => ?_)
  clear hK K hSw
  have hSw := hSn
  clear hSn
  go_simp
  refine wpAnyH_take (i := 20) (v := ?v20) rfl (by kernel_rfl) (by kernel_rfl) (by kernel_rfl) (fun _ _ _ h => h) (Or.inl ⟨by rfl, ?h20⟩) hSw ?k20
  case h20 => (intro w hSw; obtain ⟨y0, y1, y2, y3, y4, y5⟩ := KC.out w hSw; go_simp; try (with_reducible rfl))
  go_simp
  refine wpAnyH_take (i := 21) (v := ?v21) rfl (by kernel_rfl) (by kernel_rfl) (by kernel_rfl) (fun _ _ _ h => h) (Or.inl ⟨by rfl, ?h21⟩) hSw ?k21
  case h21 => (intro w hSw; obtain ⟨y0, y1, y2, y3, y4, y5⟩ := KC.out w hSw; go_simp; try (with_reducible rfl))
  go_simp
  refine wpAnyH_done (by kernel_rfl) ?_ _
  have hfin := HBE.out.trans (hSw.mono HBE.out.size)
  clear hSw
  go_wp2
  go_ret
  exact ⟨rfl, hfin⟩
set_option maxRecDepth 100000 in
theorem manArgs_walk (v : Vw) (A : Option Addr) (n c : Nat) (w : World) (he : Env w) (hnc : n ≤ c) (hcm : c ≤ maxLen) (hr : Row w.heap.size w A n 2 (fcells v.files)) :
    Calls Tryz.prog 8 #[v.val A n c] w fun e w' => e = .returned (.bool true) ∧ Below w.heap.size w w' := by
  by_cases hn : n ≤ 60
  · cases hv : v.ok with
    | false => exact manArgs_bad v A n c w he hv hn hnc hcm hr
    | true => exact manArgs_good v A n c w he hv hn hnc hcm hr
  · have hb0 := (Below.refl w.heap.size w).alloc (Nat.le_refl _) (.cells #[.int .i64 v.log, .slice A n c, .int .u64 (v.floor : Int), .int .u64 (v.cert : Int), .int .u64 (v.at_ : Int), .int .u64 (v.lease : Int)] 31)
    have haw := awake_any _ (he.below hb0)
    have e1 : (60 : Int) < (n : Int) := by omega
    unfold Vw.val
    clear hr
    go_enter Tryz.func8, Tryz.ntmps8
    go_wp2_with fail
    refine haw.mono ?_
    rintro e w1 ⟨rfl, hb1⟩
    have hbz := later_ hb0 hb1
    go_wp2
    go_ret
    exact ⟨rfl, hbz⟩
end Go.Proofs.YthepokgkfaocmaaGreatDoor
