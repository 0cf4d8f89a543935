/-
  The walk of ManFails.
-/
import Derived.Test.YthepokgkfaocmaaGreatDoorBunAS
import Derived.Deep.RegionHeld3
import Derived.IntWalk
import Derived.Test.YthepokgkfaocmaaGreatDoorBunAR
namespace Go.Proofs.YthepokgkfaocmaaGreatDoor
open Go Go.RowKit Go.Shelf
set_option maxRecDepth 100000 in
set_option maxHeartbeats 4000000 in
theorem manFails_walk (A : Option Addr) (n c : Nat) (xs : List Ev) (at_ rw_ : Int) (w : World) (he : Env w) (hn : n ≤ c) (hcm : c ≤ maxLen) (hx : Eds w.heap.size w A n xs) :
    Calls Tryz.prog 7 #[.slice A n c, .int .i64 at_, .int .i64 rw_] w fun e w' => e = .returned (.bool true) ∧ Below w.heap.size w w' := by
  have hes := edits_any A n c xs w hn hcm hx
  obtain ⟨S0, hrw, hI0⟩ : ∃ S1, Gw.rewrite (Sd.new 1048576) ⟨[], v1g, 0, false⟩ (Mw.man 1) = (S1, ⟨Mw.man 1, v1g, 1, false⟩, 0) ∧ ∀ (vs : List Vw) (x : Int), vs[0]? = some v1g → FI vs 0 (S1.setFail x) ⟨Mw.man 1, v1g, 1, false⟩ 1 1 [v1g.whole] 0 0 := by
    obtain ⟨S1, h1, _⟩ := FI.start (vs := [v1g]) rfl 0
    refine ⟨S1, h1, fun vs x hv => ?_⟩
    obtain ⟨S2, h2, h3⟩ := FI.start hv x
    rw [h1] at h2
    injection h2 with h2 _
    subst h2
    exact h3
  have HRW := Lib.hid hrw
  have HI0 := Lib.hid hI0
  have hnw := fun X w1 (hdm : Dm w1 X (Sd.new 1048576)) => gnew_any v1g none 0 0 v1g_ok (by omega) (by omega) (by decide) (w := w1) Row.nil_ (by decide) hdm (S0, ⟨Mw.man 1, v1g, 1, false⟩, 0) HRW.out.symm rfl
  simp only [v1g_val] at hnw
  have HNW := Lib.hid hnw
  clear hrw hI0 hnw
  go_enter Tryz.func7, Tryz.ntmps7
  go_wp2_with fail
  refine hes.mono ?_
  rintro e w1 ⟨hb1, he1⟩
  have hdn := dnew_any 1048576 w1
  have hen1 := he.below hb1
  clear hes
  rcases he1 with rfl | ⟨G, g, gc, V, k, vc, gs, vs, rfl, hG, hV, hch, hg45, hggc, hgcm, hkv, hvm⟩
  · go_wp2_with fail
    refine hdn.mono ?_
    rintro e w2 ⟨X, rfl, hdk, hb2, hfo⟩
    have hdm := dm_new (by omega) hen1 hdk hb2 hfo
    have hb02 := later_ hb1 hb2
    have hnw := HNW.out X w2 hdm
    have HFO := Lib.hid (fun g hg => Nat.le_trans hb1.size (hfo g hg) : ∀ g ∈ X.foot, w.heap.size ≤ g)
    clear hdn hdk hfo hb1 hb2 HNW HI0 HRW hdm
    go_wp2_with fail
    refine hnw.mono ?_
    rintro e w3 ⟨P, m, X3, rfl, hbn⟩
    have L := gat_born HFO.out hb02 hbn
    have haw := awake_any w3 L.dm.env
    have hbl := L.bel
    clear hnw HFO hbn hb02
    go_wp2_with fail
    refine haw.mono ?_
    rintro e w4 ⟨rfl, hb4⟩
    have hbz := later_ hbl hb4
    clear haw hbl
    go_wp2
    go_ret
    exact ⟨rfl, hbz⟩
  · go_wp2_with fail
    refine hdn.mono ?_
    rintro e w2 ⟨X, rfl, hdk, hb2, hfo⟩
    have hdm := dm_new (by omega) hen1 hdk hb2 hfo
    have hnw := HNW.out X w2 hdm
    have HFO := Lib.hid hfo
    clear hdn hdk hfo HNW HRW hdm
    go_wp2_with fail
    refine hnw.mono ?_
    rintro e w3 ⟨P, m, X3, rfl, hbn⟩
    have L0 := gat_born HFO.out hb2 hbn
    have hx3 := hbn.e
    obtain ⟨mf, hmf, hmf1⟩ := and_mask at_ 6 (by omega)
    have hmf' : bits .and .i64 at_ 63 = (mf : Int) := hmf
    have I0 := HI0.out (vs.map (·.v)) ((mf : Int) + 1) hch.one
    have hfl := L0.fail ((mf : Int) + 1) (by omega)
    rw [hx3] at hfl
    clear hnw HFO hbn HI0 hmf
    generalize X.d = d0 at *
    go_wp2_with fail
    refine hfl.mono ?_
    rintro e w4 ⟨rfl, L1⟩
    clear hfl L0
    have hN1 := hen1.base
    have hkl : k = g + 1 := by
      have h1 := hch.len
      have h2 := hG.len
      have h3 := hV.len
      simp only [List.length_map] at h1
      omega
    have hvf : ∀ j (hj : j < vs.length), (vs.map (·.v))[j]? = some (vs[j]).v := fun j hj => by simp [hj]
    have HVF := Lib.hid hvf
    have HCH := Lib.hid hch
    obtain rfl := hkl
    obtain ⟨aV, _, hVe, _⟩ := hV.at_ (show 0 < g + 1 by omega)
    obtain rfl := hVe
    have HG := Lib.hid hG
    have HV := Lib.hid hV
    have hgl := hG.len
    have hvl := hV.len
    clear hvf hch hG hV hb2 hx
    go_upto_block 0 with (fail)
    go_cut [13] (fun nn wx => ∃ (q : Nat) (S : Sd) (M : Gs) (X : Dw) (P : Sl) (v : Vw) (n' G' : Nat) (t : List UInt8) (l lc k' stop : Nat), q < g + 1 ∧ nn = .int .i64 (q : Int) ∧ X.d = d0 ∧ GAt P w1 wx X S m M ∧ Hid (FE S v n' G' t l lc k' stop) ∧ Hid (M.v.ok = true ∧ ((vs.map (·.v))[q]? = some v ∨ (M.broken = true ∧ q + 1 < g + 1 ∧ (vs.map (·.v))[q + 1]? = some v))))
    case first =>
      go_wp2_with fail
      go_loopw [13, 14] (fun nn i wr => ∃ (q : Nat) (S : Sd) (M : Gs) (X : Dw) (P : Sl) (n' G' : Nat) (ts : List Ed), q ≤ g ∧ nn = .int .i64 (q : Int) ∧ i = .int .i64 (q : Int) ∧ X.d = d0 ∧ GAt P w1 wr X S m M ∧ Hid (FI (vs.map (·.v)) q S M n' G' ts q (5000 * q))) (fun _ i _ => g - (intOf i).toNat)
      case atStart => exact ⟨0, _, _, X3, P, 1, 1, [v1g.whole], Nat.zero_le _, rfl, rfl, hx3, L1, Lib.hid I0⟩
      case round =>
        obtain ⟨q, S, M, X, P, n', G', ts, hq, rfl, rfl, hxd, L, hI⟩ := hrel
        clear I0 L1 hx3
        by_cases hlt : q < g
        · obtain ⟨a, hl, rfl, hab, hat, hok⟩ := (HG.out.below L.bel).at_ hlt
          have hlm : q < (gs.map (·.e)).length := by simpa using hl
          have hsm := hok.small (by have := (HCH.out.step q hlm).1; simpa using this)
          have hsv := hI.out.save HCH.out hlm (by omega) (by omega) (by omega)
          rw [List.getElem_map] at hsv
          have hnm := hI.out.ms.nm
          have hct := hI.out.ms.count
          have hfw := hI.out.few
          have hs := L.save hN1 hI.out.ms.ok (by omega) (by rw [hnm]; have := man_len n'; omega) gs[q] (hok.up L.bel.size) (by omega) (by omega)
          obtain ⟨j, hj⟩ : ∃ j : Nat, (q : Int) + 1 = (j : Int) := ⟨q + 1, by omega⟩
          have hjq : j = q + 1 := by omega
          have HJQ := Lib.hid hjq
          have hj1 : j ≤ g := by omega
          have hj0 : 1 ≤ j := by omega
          clear hjq
          obtain ⟨mq, hmq, hmq1⟩ := and_mask (q : Int) 5 (by omega)
          have hmq' : bits .and .i64 (q : Int) 31 = (mq : Int) := hmq
          obtain ⟨mb, hmb, hmb1⟩ := and_mask (rw_ / 2 ^ mq) 1 (by omega)
          have hmb' : bits .and .i64 (rw_ / 2 ^ mq) 1 = (mb : Int) := hmb
          have hmb2 : mb = 0 ∨ mb = 1 := by omega
          rw [hxd] at hs
          have HOK := Lib.hid hok
          generalize hxe : gs[q] = x at *
          obtain ⟨c0, c1, c2, c3, c4, c5, c6⟩ := hat
          clear hok hnm hct hmq hmb hmb1
          rcases hsv with ⟨S1, M1, ts1, hsv, hbr1, hI1⟩ | ⟨S0', S1, M1, ts1, hsv, hbr, hld, hsv2, hbr1, hI1⟩ | ⟨S1, M1, v, t, l, lc, k', stop, hsv, hbr1, hMv, hvj, hFE⟩
          · rw [hsv] at hs
            unfold Ed.val at hs
            have HS := Lib.hid hs
            have HI1 := Lib.hid hI1
            clear hs hsv hI1 hbr1
            go_wp2_with fail
            refine HS.out.mono ?_
            rintro e w5 ⟨rfl, P1, X1, hx1, L1⟩
            have L1 : GAt P1 w1 w5 X1 S1 m M1 := L1
            clear HS c0 c1 c2 c3 c4 c5 c6 L hI HOK
            rcases hmb2 with rfl | rfl
            · go_wp2_with fail
              obtain ⟨hyo, hkc⟩ := HV.out.seen (show j < vs.length by omega) L1.bel L1.bel.size
              have hyv := HI1.out.view
              rw [← HJQ.out, HVF.out j (by omega)] at hyv
              have hyv := Option.some.inj hyv
              obtain ⟨hvw, hsm2⟩ := L1.sees _ hyo
              have hsame : (M1.v).same (vs[j]).v = true := by rw [hyv]; exact Vw.same_self _
              rw [hsame] at hsm2
              have hjk : (j : Int) < (g : Int) + 1 := by omega
              generalize vs[j] = y at *
              have KC := Lib.hid hkc
              have HVW := Lib.hid hvw
              have HSM := Lib.hid hsm2
              have HYV := Lib.hid hyv
              clear hyo hkc hvw hsm2 hyv hsame
              refine wp_region_held_drew (S := fun w' => Below w5.heap.size w5 w') rfl (below_drew (Below.refl _ _)) (fun hSw => ?_)
              refine wpAnyH_take (i := 0) (v := ?vz10) rfl (by kernel_rfl) (by kernel_rfl) (by kernel_rfl) (fun _ _ _ h => h) (Or.inl ⟨by rfl, ?hz10⟩) hSw ?kz10
              case hz10 => (intro w hSw; (obtain ⟨y0, y1, y2, y3, y4, y5⟩ := KC.out w hSw); go_simp; try (with_reducible rfl))
              go_simp
              refine wpAnyH_take (i := 2) (v := ?vz12) rfl (by kernel_rfl) (by kernel_rfl) (by kernel_rfl) (fun _ _ _ h => h) (Or.inl ⟨by rfl, ?hz12⟩) hSw ?kz12
              case hz12 => (intro w hSw; (obtain ⟨y0, y1, y2, y3, y4, y5⟩ := KC.out w hSw); go_simp; try (with_reducible rfl))
              go_simp
              refine wpAnyH_take (i := 3) (v := ?vz13) rfl (by kernel_rfl) (by kernel_rfl) (by kernel_rfl) (fun _ _ _ h => h) (Or.inl ⟨by rfl, ?hz13⟩) hSw ?kz13
              case hz13 => (intro w hSw; (obtain ⟨y0, y1, y2, y3, y4, y5⟩ := KC.out w hSw); go_simp; try (with_reducible rfl))
              go_simp
              refine wpAnyH_take (i := 4) (v := ?vz14) rfl (by kernel_rfl) (by kernel_rfl) (by kernel_rfl) (fun _ _ _ h => h) (Or.inl ⟨by rfl, ?hz14⟩) hSw ?kz14
              case hz14 => (intro w hSw; (obtain ⟨y0, y1, y2, y3, y4, y5⟩ := KC.out w hSw); go_simp; try (with_reducible rfl))
              go_simp
              refine wpAnyH_take (i := 5) (v := ?vz15) rfl (by kernel_rfl) (by kernel_rfl) (by kernel_rfl) (fun _ _ _ h => h) (Or.inl ⟨by rfl, ?hz15⟩) hSw ?kz15
              case hz15 => (intro w hSw; (obtain ⟨y0, y1, y2, y3, y4, y5⟩ := KC.out w hSw); go_simp; try (with_reducible rfl))
              go_simp
              refine wpAnyH_ready (rs := [1]) (by kernel_rfl) (by simp) ?_
              refine AllReadyH.cons rfl (fun K hK => ?_) AllReadyH.nil
              go_simp
              with_reducible refine (HVW.out _ hSw).mono ?_
              rintro e1 wa ⟨A1, c1, rfl, hf1, hb1'⟩
              go_simp
              refine hK.out _ _ (hSw.trans (hb1'.mono hSw.size)) (fun hSn => ?_)
              clear hK K hSw
              have hSw := hSn
              clear hSn
              go_simp
              refine wpAnyH_ready (rs := [6]) (by kernel_rfl) (by simp) ?_
              refine AllReadyH.cons rfl (fun K hK => ?_) AllReadyH.nil
              go_simp
              with_reducible refine (HSM.out _ _ _ _ hSw hf1).mono ?_
              rintro e2 wb ⟨rfl, hb2'⟩
              go_simp
              refine hK.out _ _ (hSw.trans (hb2'.mono hSw.size)) (fun hSn => ?_)
              clear hK K hSw
              have hSw := hSn
              clear hSn
              go_simp
              refine wpAnyH_take (i := 7) (v := ?vz17) rfl (by kernel_rfl) (by kernel_rfl) (by kernel_rfl) (fun _ _ _ h => h) (Or.inl ⟨by rfl, ?hz17⟩) hSw ?kz17
              case hz17 => (intro w hSw; (obtain ⟨y0, y1, y2, y3, y4, y5⟩ := KC.out w hSw); go_simp; try (with_reducible rfl))
              go_simp
              refine wpAnyH_done (by kernel_rfl) ?_ _
              have L9 := L1.below hSw
              clear hSw KC HVW HSM HYV hf1
              go_wp2
              go_roundw
              case rel => exact ⟨j, _, _, _, _, _, _, _, by omega, rfl, rfl, (by first | exact hx1 | exact hx2), L9, Lib.hid (by rw [HJQ.out]; exact HI1.out.mono (by omega) (by omega))⟩
              case measure => simp [intOf]; omega
            · have hld1 := HI1.out.load
              have hrw := L1.rewrite hN1 HI1.out.ms.ok (by omega)
              rw [hx1] at hrw
              have hrc := HI1.out.rewrite L1.dm.wf (by omega) (by omega)
              rcases hrc with ⟨S2, M2, n2, G2, ts2, hr2, hbr2, hI2⟩ | ⟨S2, G2, hr2, hbr2, hI2⟩ | ⟨S2, M2, n2, G2, t2, l2, lc2, k2, stop2, hr2, hbr2, hv2, hFE⟩
              · rw [hr2] at hrw
                have HRW := Lib.hid hrw
                have HI2 := Lib.hid hI2
                have HBR := Lib.hid hbr2
                clear hrw hr2 hI2 hbr2
                go_wp2_with fail
                refine HRW.out.mono ?_
                rintro e w6 ⟨rfl, P2, X2, hx2, L2⟩
                have L2 : GAt P2 w1 w6 X2 S2 m M2 := L2
                have hbk := gmbroken_any X2.d L2.man
                rw [HBR.out] at hbk
                clear HRW
                go_wp2_with fail
                refine hbk.mono ?_
                rintro e w7 ⟨rfl, rfl⟩
                clear hbk
                go_wp2_with fail
                obtain ⟨hyo, hkc⟩ := HV.out.seen (show j < vs.length by omega) L2.bel L2.bel.size
                have hyv := HI2.out.view
                rw [← HJQ.out, HVF.out j (by omega)] at hyv
                have hyv := Option.some.inj hyv
                obtain ⟨hvw, hsm2⟩ := L2.sees _ hyo
                have hsame : (M2.v).same (vs[j]).v = true := by rw [hyv]; exact Vw.same_self _
                rw [hsame] at hsm2
                have hjk : (j : Int) < (g : Int) + 1 := by omega
                generalize vs[j] = y at *
                have KC := Lib.hid hkc
                have HVW := Lib.hid hvw
                have HSM := Lib.hid hsm2
                have HYV := Lib.hid hyv
                clear hyo hkc hvw hsm2 hyv hsame
                refine wp_region_held_drew (S := fun w' => Below w6.heap.size w6 w') rfl (below_drew (Below.refl _ _)) (fun hSw => ?_)
                refine wpAnyH_take (i := 0) (v := ?vz20) rfl (by kernel_rfl) (by kernel_rfl) (by kernel_rfl) (fun _ _ _ h => h) (Or.inl ⟨by rfl, ?hz20⟩) hSw ?kz20
                case hz20 => (intro w hSw; (obtain ⟨y0, y1, y2, y3, y4, y5⟩ := KC.out w hSw); go_simp; try (with_reducible rfl))
                go_simp
                refine wpAnyH_take (i := 2) (v := ?vz22) rfl (by kernel_rfl) (by kernel_rfl) (by kernel_rfl) (fun _ _ _ h => h) (Or.inl ⟨by rfl, ?hz22⟩) hSw ?kz22
                case hz22 => (intro w hSw; (obtain ⟨y0, y1, y2, y3, y4, y5⟩ := KC.out w hSw); go_simp; try (with_reducible rfl))
                go_simp
                refine wpAnyH_take (i := 3) (v := ?vz23) rfl (by kernel_rfl) (by kernel_rfl) (by kernel_rfl) (fun _ _ _ h => h) (Or.inl ⟨by rfl, ?hz23⟩) hSw ?kz23
                case hz23 => (intro w hSw; (obtain ⟨y0, y1, y2, y3, y4, y5⟩ := KC.out w hSw); go_simp; try (with_reducible rfl))
                go_simp
                refine wpAnyH_take (i := 4) (v := ?vz24) rfl (by kernel_rfl) (by kernel_rfl) (by kernel_rfl) (fun _ _ _ h => h) (Or.inl ⟨by rfl, ?hz24⟩) hSw ?kz24
                case hz24 => (intro w hSw; (obtain ⟨y0, y1, y2, y3, y4, y5⟩ := KC.out w hSw); go_simp; try (with_reducible rfl))
                go_simp
                refine wpAnyH_take (i := 5) (v := ?vz25) rfl (by kernel_rfl) (by kernel_rfl) (by kernel_rfl) (fun _ _ _ h => h) (Or.inl ⟨by rfl, ?hz25⟩) hSw ?kz25
                case hz25 => (intro w hSw; (obtain ⟨y0, y1, y2, y3, y4, y5⟩ := KC.out w hSw); go_simp; try (with_reducible rfl))
                go_simp
                refine wpAnyH_ready (rs := [1]) (by kernel_rfl) (by simp) ?_
                refine AllReadyH.cons rfl (fun K hK => ?_) AllReadyH.nil
                go_simp
                with_reducible refine (HVW.out _ hSw).mono ?_
                rintro e1 wa ⟨A1, c1, rfl, hf1, hb1'⟩
                go_simp
                refine hK.out _ _ (hSw.trans (hb1'.mono hSw.size)) (fun hSn => ?_)
                clear hK K hSw
                have hSw := hSn
                clear hSn
                go_simp
                refine wpAnyH_ready (rs := [6]) (by kernel_rfl) (by simp) ?_
                refine AllReadyH.cons rfl (fun K hK => ?_) AllReadyH.nil
                go_simp
                with_reducible refine (HSM.out _ _ _ _ hSw hf1).mono ?_
                rintro e2 wb ⟨rfl, hb2'⟩
                go_simp
                refine hK.out _ _ (hSw.trans (hb2'.mono hSw.size)) (fun hSn => ?_)
                clear hK K hSw
                have hSw := hSn
                clear hSn
                go_simp
                refine wpAnyH_take (i := 7) (v := ?vz27) rfl (by kernel_rfl) (by kernel_rfl) (by kernel_rfl) (fun _ _ _ h => h) (Or.inl ⟨by rfl, ?hz27⟩) hSw ?kz27
                case hz27 => (intro w hSw; (obtain ⟨y0, y1, y2, y3, y4, y5⟩ := KC.out w hSw); go_simp; try (with_reducible rfl))
                go_simp
                refine wpAnyH_done (by kernel_rfl) ?_ _
                have L9 := L2.below hSw
                clear hSw KC HVW HSM HYV hf1
                go_wp2
                go_roundw
                case rel => exact ⟨j, _, _, _, _, _, _, _, by omega, rfl, rfl, (by first | exact hx1 | exact hx2), L9, Lib.hid (by rw [HJQ.out]; exact HI2.out.mono (by omega) (by omega))⟩
                case measure => simp [intOf]; omega
              · rw [hr2] at hrw
                have HRW := Lib.hid hrw
                have HI2 := Lib.hid hI2
                have HBR := Lib.hid hbr2
                clear hrw hr2 hI2 hbr2
                go_wp2_with fail
                refine HRW.out.mono ?_
                rintro e w6 ⟨rfl, P2, X2, hx2, L2⟩
                have L2 : GAt P2 w1 w6 X2 S2 m M1 := L2
                have hbk := gmbroken_any X2.d L2.man
                rw [HBR.out] at hbk
                clear HRW
                go_wp2_with fail
                refine hbk.mono ?_
                rintro e w7 ⟨rfl, rfl⟩
                clear hbk
                go_wp2_with fail
                obtain ⟨hyo, hkc⟩ := HV.out.seen (show j < vs.length by omega) L2.bel L2.bel.size
                have hyv := HI2.out.view
                rw [← HJQ.out, HVF.out j (by omega)] at hyv
                have hyv := Option.some.inj hyv
                obtain ⟨hvw, hsm2⟩ := L2.sees _ hyo
                have hsame : (M1.v).same (vs[j]).v = true := by rw [hyv]; exact Vw.same_self _
                rw [hsame] at hsm2
                have hjk : (j : Int) < (g : Int) + 1 := by omega
                generalize vs[j] = y at *
                have KC := Lib.hid hkc
                have HVW := Lib.hid hvw
                have HSM := Lib.hid hsm2
                have HYV := Lib.hid hyv
                clear hyo hkc hvw hsm2 hyv hsame
                refine wp_region_held_drew (S := fun w' => Below w6.heap.size w6 w') rfl (below_drew (Below.refl _ _)) (fun hSw => ?_)
                refine wpAnyH_take (i := 0) (v := ?vz30) rfl (by kernel_rfl) (by kernel_rfl) (by kernel_rfl) (fun _ _ _ h => h) (Or.inl ⟨by rfl, ?hz30⟩) hSw ?kz30
                case hz30 => (intro w hSw; (obtain ⟨y0, y1, y2, y3, y4, y5⟩ := KC.out w hSw); go_simp; try (with_reducible rfl))
                go_simp
                refine wpAnyH_take (i := 2) (v := ?vz32) rfl (by kernel_rfl) (by kernel_rfl) (by kernel_rfl) (fun _ _ _ h => h) (Or.inl ⟨by rfl, ?hz32⟩) hSw ?kz32
                case hz32 => (intro w hSw; (obtain ⟨y0, y1, y2, y3, y4, y5⟩ := KC.out w hSw); go_simp; try (with_reducible rfl))
                go_simp
                refine wpAnyH_take (i := 3) (v := ?vz33) rfl (by kernel_rfl) (by kernel_rfl) (by kernel_rfl) (fun _ _ _ h => h) (Or.inl ⟨by rfl, ?hz33⟩) hSw ?kz33
                case hz33 => (intro w hSw; (obtain ⟨y0, y1, y2, y3, y4, y5⟩ := KC.out w hSw); go_simp; try (with_reducible rfl))
                go_simp
                refine wpAnyH_take (i := 4) (v := ?vz34) rfl (by kernel_rfl) (by kernel_rfl) (by kernel_rfl) (fun _ _ _ h => h) (Or.inl ⟨by rfl, ?hz34⟩) hSw ?kz34
                case hz34 => (intro w hSw; (obtain ⟨y0, y1, y2, y3, y4, y5⟩ := KC.out w hSw); go_simp; try (with_reducible rfl))
                go_simp
                refine wpAnyH_take (i := 5) (v := ?vz35) rfl (by kernel_rfl) (by kernel_rfl) (by kernel_rfl) (fun _ _ _ h => h) (Or.inl ⟨by rfl, ?hz35⟩) hSw ?kz35
                case hz35 => (intro w hSw; (obtain ⟨y0, y1, y2, y3, y4, y5⟩ := KC.out w hSw); go_simp; try (with_reducible rfl))
                go_simp
                refine wpAnyH_ready (rs := [1]) (by kernel_rfl) (by simp) ?_
                refine AllReadyH.cons rfl (fun K hK => ?_) AllReadyH.nil
                go_simp
                with_reducible refine (HVW.out _ hSw).mono ?_
                rintro e1 wa ⟨A1, c1, rfl, hf1, hb1'⟩
                go_simp
                refine hK.out _ _ (hSw.trans (hb1'.mono hSw.size)) (fun hSn => ?_)
                clear hK K hSw
                have hSw := hSn
                clear hSn
                go_simp
                refine wpAnyH_ready (rs := [6]) (by kernel_rfl) (by simp) ?_
                refine AllReadyH.cons rfl (fun K hK => ?_) AllReadyH.nil
                go_simp
                with_reducible refine (HSM.out _ _ _ _ hSw hf1).mono ?_
                rintro e2 wb ⟨rfl, hb2'⟩
                go_simp
                refine hK.out _ _ (hSw.trans (hb2'.mono hSw.size)) (fun hSn => ?_)
                clear hK K hSw
                have hSw := hSn
                clear hSn
                go_simp
                refine wpAnyH_take (i := 7) (v := ?vz37) rfl (by kernel_rfl) (by kernel_rfl) (by kernel_rfl) (fun _ _ _ h => h) (Or.inl ⟨by rfl, ?hz37⟩) hSw ?kz37
                case hz37 => (intro w hSw; (obtain ⟨y0, y1, y2, y3, y4, y5⟩ := KC.out w hSw); go_simp; try (with_reducible rfl))
                go_simp
                refine wpAnyH_done (by kernel_rfl) ?_ _
                have L9 := L2.below hSw
                clear hSw KC HVW HSM HYV hf1
                go_wp2
                go_roundw
                case rel => exact ⟨j, _, _, _, _, _, _, _, by omega, rfl, rfl, (by first | exact hx1 | exact hx2), L9, Lib.hid (by rw [HJQ.out]; exact HI2.out.mono (by omega) (by omega))⟩
                case measure => simp [intOf]; omega
              · rw [hr2] at hrw
                have HRW := Lib.hid hrw
                have HBR := Lib.hid hbr2
                have HFE := Lib.hid hFE
                have hv1 := HI1.out.view
                rw [← HJQ.out] at hv1
                have HVV := Lib.hid (And.intro (show M2.v.ok = true by rw [hv2]; exact HI1.out.ms.ok) (Or.inl hv1 : (vs.map (·.v))[j]? = some M1.v ∨ (M2.broken = true ∧ j + 1 < g + 1 ∧ (vs.map (·.v))[j + 1]? = some M1.v)))
                clear hrw hr2 hbr2 hFE hv2 hv1
                go_wp2_with fail
                refine HRW.out.mono ?_
                rintro e w6 ⟨rfl, P2, X2, hx2, L2⟩
                have L2 : GAt P2 w1 w6 X2 S2 m M2 := L2
                have hbk := gmbroken_any X2.d L2.man
                rw [HBR.out] at hbk
                clear HRW
                go_wp2_with fail
                refine hbk.mono ?_
                rintro e w7 ⟨rfl, rfl⟩
                clear hbk
                go_wp2_with fail
                go_meet
                exact ⟨j, _, _, _, _, _, _, _, _, _, _, _, _, by omega, rfl, hx2, L2, HFE, HVV⟩
          · rw [hsv] at hs
            unfold Ed.val at hs
            have HS := Lib.hid hs
            have HI1 := Lib.hid hI1
            have HSV2 := Lib.hid hsv2
            have HBR := Lib.hid hbr
            have hok0 := hI.out.ms.ok
            have hnm0 := hI.out.ms.nm
            have hct0 := hI.out.ms.count
            have HO := Lib.hid (And.intro hok0 (And.intro hnm0 hct0))
            clear hs hsv hI1 hbr1 hbr hsv2 hok0 hnm0 hct0
            go_wp2_with fail
            refine HS.out.mono ?_
            rintro e w4' ⟨rfl, P4, X4, hx4, L4⟩
            have L4 : GAt P4 w1 w4' X4 S0' m M := L4
            have hbk := gmbroken_any X4.d L4.man
            rw [HBR.out] at hbk
            clear HS c0 c1 c2 c3 c4 c5 c6
            go_wp2_with fail
            refine hbk.mono ?_
            rintro e w7 ⟨rfl, rfl⟩
            obtain ⟨a', hl', ea, hab', hat', hok'⟩ := (HG.out.below L4.bel).at_ hlt
            injection ea with ea
            subst ea
            rw [hxe] at hat' hok'
            obtain ⟨c0, c1, c2, c3, c4, c5, c6⟩ := hat'
            have hs2 := L4.save hN1 HO.out.1 (by have := HO.out.2.2; omega) (by rw [HO.out.2.1]; have := man_len n'; omega) x (hok'.up L4.bel.size) (by omega) (by omega)
            rw [HSV2.out, hx4] at hs2
            unfold Ed.val at hs2
            have HS2 := Lib.hid hs2
            clear hbk hs2 hok' hab'
            go_wp2_with fail
            refine HS2.out.mono ?_
            rintro e w5 ⟨rfl, P1, X1, hx1, L1⟩
            have L1 : GAt P1 w1 w5 X1 S1 m M1 := L1
            clear HS2 c0 c1 c2 c3 c4 c5 c6 L hI HOK L4 hx4 HSV2 HBR HO hld
            rcases hmb2 with rfl | rfl
            · go_wp2_with fail
              obtain ⟨hyo, hkc⟩ := HV.out.seen (show j < vs.length by omega) L1.bel L1.bel.size
              have hyv := HI1.out.view
              rw [← HJQ.out, HVF.out j (by omega)] at hyv
              have hyv := Option.some.inj hyv
              obtain ⟨hvw, hsm2⟩ := L1.sees _ hyo
              have hsame : (M1.v).same (vs[j]).v = true := by rw [hyv]; exact Vw.same_self _
              rw [hsame] at hsm2
              have hjk : (j : Int) < (g : Int) + 1 := by omega
              generalize vs[j] = y at *
              have KC := Lib.hid hkc
              have HVW := Lib.hid hvw
              have HSM := Lib.hid hsm2
              have HYV := Lib.hid hyv
              clear hyo hkc hvw hsm2 hyv hsame
              refine wp_region_held_drew (S := fun w' => Below w5.heap.size w5 w') rfl (below_drew (Below.refl _ _)) (fun hSw => ?_)
              refine wpAnyH_take (i := 0) (v := ?vz40) rfl (by kernel_rfl) (by kernel_rfl) (by kernel_rfl) (fun _ _ _ h => h) (Or.inl ⟨by rfl, ?hz40⟩) hSw ?kz40
              case hz40 => (intro w hSw; (obtain ⟨y0, y1, y2, y3, y4, y5⟩ := KC.out w hSw); go_simp; try (with_reducible rfl))
              go_simp
              refine wpAnyH_take (i := 2) (v := ?vz42) rfl (by kernel_rfl) (by kernel_rfl) (by kernel_rfl) (fun _ _ _ h => h) (Or.inl ⟨by rfl, ?hz42⟩) hSw ?kz42
              case hz42 => (intro w hSw; (obtain ⟨y0, y1, y2, y3, y4, y5⟩ := KC.out w hSw); go_simp; try (with_reducible rfl))
              go_simp
              refine wpAnyH_take (i := 3) (v := ?vz43) rfl (by kernel_rfl) (by kernel_rfl) (by kernel_rfl) (fun _ _ _ h => h) (Or.inl ⟨by rfl, ?hz43⟩) hSw ?kz43
              case hz43 => (intro w hSw; (obtain ⟨y0, y1, y2, y3, y4, y5⟩ := KC.out w hSw); go_simp; try (with_reducible rfl))
              go_simp
              refine wpAnyH_take (i := 4) (v := ?vz44) rfl (by kernel_rfl) (by kernel_rfl) (by kernel_rfl) (fun _ _ _ h => h) (Or.inl ⟨by rfl, ?hz44⟩) hSw ?kz44
              case hz44 => (intro w hSw; (obtain ⟨y0, y1, y2, y3, y4, y5⟩ := KC.out w hSw); go_simp; try (with_reducible rfl))
              go_simp
              refine wpAnyH_take (i := 5) (v := ?vz45) rfl (by kernel_rfl) (by kernel_rfl) (by kernel_rfl) (fun _ _ _ h => h) (Or.inl ⟨by rfl, ?hz45⟩) hSw ?kz45
              case hz45 => (intro w hSw; (obtain ⟨y0, y1, y2, y3, y4, y5⟩ := KC.out w hSw); go_simp; try (with_reducible rfl))
              go_simp
              refine wpAnyH_ready (rs := [1]) (by kernel_rfl) (by simp) ?_
              refine AllReadyH.cons rfl (fun K hK => ?_) AllReadyH.nil
              go_simp
              with_reducible refine (HVW.out _ hSw).mono ?_
              rintro e1 wa ⟨A1, c1, rfl, hf1, hb1'⟩
              go_simp
              refine hK.out _ _ (hSw.trans (hb1'.mono hSw.size)) (fun hSn => ?_)
              clear hK K hSw
              have hSw := hSn
              clear hSn
              go_simp
              refine wpAnyH_ready (rs := [6]) (by kernel_rfl) (by simp) ?_
              refine AllReadyH.cons rfl (fun K hK => ?_) AllReadyH.nil
              go_simp
              with_reducible refine (HSM.out _ _ _ _ hSw hf1).mono ?_
              rintro e2 wb ⟨rfl, hb2'⟩
              go_simp
              refine hK.out _ _ (hSw.trans (hb2'.mono hSw.size)) (fun hSn => ?_)
              clear hK K hSw
              have hSw := hSn
              clear hSn
              go_simp
              refine wpAnyH_take (i := 7) (v := ?vz47) rfl (by kernel_rfl) (by kernel_rfl) (by kernel_rfl) (fun _ _ _ h => h) (Or.inl ⟨by rfl, ?hz47⟩) hSw ?kz47
              case hz47 => (intro w hSw; (obtain ⟨y0, y1, y2, y3, y4, y5⟩ := KC.out w hSw); go_simp; try (with_reducible rfl))
              go_simp
              refine wpAnyH_done (by kernel_rfl) ?_ _
              have L9 := L1.below hSw
              clear hSw KC HVW HSM HYV hf1
              go_wp2
              go_roundw
              case rel => exact ⟨j, _, _, _, _, _, _, _, by omega, rfl, rfl, (by first | exact hx1 | exact hx2), L9, Lib.hid (by rw [HJQ.out]; exact HI1.out.mono (by omega) (by omega))⟩
              case measure => simp [intOf]; omega
            · have hld1 := HI1.out.load
              have hrw := L1.rewrite hN1 HI1.out.ms.ok (by omega)
              rw [hx1] at hrw
              have hrc := HI1.out.rewrite L1.dm.wf (by omega) (by omega)
              rcases hrc with ⟨S2, M2, n2, G2, ts2, hr2, hbr2, hI2⟩ | ⟨S2, G2, hr2, hbr2, hI2⟩ | ⟨S2, M2, n2, G2, t2, l2, lc2, k2, stop2, hr2, hbr2, hv2, hFE⟩
              · rw [hr2] at hrw
                have HRW := Lib.hid hrw
                have HI2 := Lib.hid hI2
                have HBR := Lib.hid hbr2
                clear hrw hr2 hI2 hbr2
                go_wp2_with fail
                refine HRW.out.mono ?_
                rintro e w6 ⟨rfl, P2, X2, hx2, L2⟩
                have L2 : GAt P2 w1 w6 X2 S2 m M2 := L2
                have hbk := gmbroken_any X2.d L2.man
                rw [HBR.out] at hbk
                clear HRW
                go_wp2_with fail
                refine hbk.mono ?_
                rintro e w7 ⟨rfl, rfl⟩
                clear hbk
                go_wp2_with fail
                obtain ⟨hyo, hkc⟩ := HV.out.seen (show j < vs.length by omega) L2.bel L2.bel.size
                have hyv := HI2.out.view
                rw [← HJQ.out, HVF.out j (by omega)] at hyv
                have hyv := Option.some.inj hyv
                obtain ⟨hvw, hsm2⟩ := L2.sees _ hyo
                have hsame : (M2.v).same (vs[j]).v = true := by rw [hyv]; exact Vw.same_self _
                rw [hsame] at hsm2
                have hjk : (j : Int) < (g : Int) + 1 := by omega
                generalize vs[j] = y at *
                have KC := Lib.hid hkc
                have HVW := Lib.hid hvw
                have HSM := Lib.hid hsm2
                have HYV := Lib.hid hyv
                clear hyo hkc hvw hsm2 hyv hsame
                refine wp_region_held_drew (S := fun w' => Below w6.heap.size w6 w') rfl (below_drew (Below.refl _ _)) (fun hSw => ?_)
                refine wpAnyH_take (i := 0) (v := ?vz50) rfl (by kernel_rfl) (by kernel_rfl) (by kernel_rfl) (fun _ _ _ h => h) (Or.inl ⟨by rfl, ?hz50⟩) hSw ?kz50
                case hz50 => (intro w hSw; (obtain ⟨y0, y1, y2, y3, y4, y5⟩ := KC.out w hSw); go_simp; try (with_reducible rfl))
                go_simp
                refine wpAnyH_take (i := 2) (v := ?vz52) rfl (by kernel_rfl) (by kernel_rfl) (by kernel_rfl) (fun _ _ _ h => h) (Or.inl ⟨by rfl, ?hz52⟩) hSw ?kz52
                case hz52 => (intro w hSw; (obtain ⟨y0, y1, y2, y3, y4, y5⟩ := KC.out w hSw); go_simp; try (with_reducible rfl))
                go_simp
                refine wpAnyH_take (i := 3) (v := ?vz53) rfl (by kernel_rfl) (by kernel_rfl) (by kernel_rfl) (fun _ _ _ h => h) (Or.inl ⟨by rfl, ?hz53⟩) hSw ?kz53
                case hz53 => (intro w hSw; (obtain ⟨y0, y1, y2, y3, y4, y5⟩ := KC.out w hSw); go_simp; try (with_reducible rfl))
                go_simp
                refine wpAnyH_take (i := 4) (v := ?vz54) rfl (by kernel_rfl) (by kernel_rfl) (by kernel_rfl) (fun _ _ _ h => h) (Or.inl ⟨by rfl, ?hz54⟩) hSw ?kz54
                case hz54 => (intro w hSw; (obtain ⟨y0, y1, y2, y3, y4, y5⟩ := KC.out w hSw); go_simp; try (with_reducible rfl))
                go_simp
                refine wpAnyH_take (i := 5) (v := ?vz55) rfl (by kernel_rfl) (by kernel_rfl) (by kernel_rfl) (fun _ _ _ h => h) (Or.inl ⟨by rfl, ?hz55⟩) hSw ?kz55
                case hz55 => (intro w hSw; (obtain ⟨y0, y1, y2, y3, y4, y5⟩ := KC.out w hSw); go_simp; try (with_reducible rfl))
                go_simp
                refine wpAnyH_ready (rs := [1]) (by kernel_rfl) (by simp) ?_
                refine AllReadyH.cons rfl (fun K hK => ?_) AllReadyH.nil
                go_simp
                with_reducible refine (HVW.out _ hSw).mono ?_
                rintro e1 wa ⟨A1, c1, rfl, hf1, hb1'⟩
                go_simp
                refine hK.out _ _ (hSw.trans (hb1'.mono hSw.size)) (fun hSn => ?_)
                clear hK K hSw
                have hSw := hSn
                clear hSn
                go_simp
                refine wpAnyH_ready (rs := [6]) (by kernel_rfl) (by simp) ?_
                refine AllReadyH.cons rfl (fun K hK => ?_) AllReadyH.nil
                go_simp
                with_reducible refine (HSM.out _ _ _ _ hSw hf1).mono ?_
                rintro e2 wb ⟨rfl, hb2'⟩
                go_simp
                refine hK.out _ _ (hSw.trans (hb2'.mono hSw.size)) (fun hSn => ?_)
                clear hK K hSw
                have hSw := hSn
                clear hSn
                go_simp
                refine wpAnyH_take (i := 7) (v := ?vz57) rfl (by kernel_rfl) (by kernel_rfl) (by kernel_rfl) (fun _ _ _ h => h) (Or.inl ⟨by rfl, ?hz57⟩) hSw ?kz57
                case hz57 => (intro w hSw; (obtain ⟨y0, y1, y2, y3, y4, y5⟩ := KC.out w hSw); go_simp; try (with_reducible rfl))
                go_simp
                refine wpAnyH_done (by kernel_rfl) ?_ _
                have L9 := L2.below hSw
                clear hSw KC HVW HSM HYV hf1
                go_wp2
                go_roundw
                case rel => exact ⟨j, _, _, _, _, _, _, _, by omega, rfl, rfl, (by first | exact hx1 | exact hx2), L9, Lib.hid (by rw [HJQ.out]; exact HI2.out.mono (by omega) (by omega))⟩
                case measure => simp [intOf]; omega
              · rw [hr2] at hrw
                have HRW := Lib.hid hrw
                have HI2 := Lib.hid hI2
                have HBR := Lib.hid hbr2
                clear hrw hr2 hI2 hbr2
                go_wp2_with fail
                refine HRW.out.mono ?_
                rintro e w6 ⟨rfl, P2, X2, hx2, L2⟩
                have L2 : GAt P2 w1 w6 X2 S2 m M1 := L2
                have hbk := gmbroken_any X2.d L2.man
                rw [HBR.out] at hbk
                clear HRW
                go_wp2_with fail
                refine hbk.mono ?_
                rintro e w7 ⟨rfl, rfl⟩
                clear hbk
                go_wp2_with fail
                obtain ⟨hyo, hkc⟩ := HV.out.seen (show j < vs.length by omega) L2.bel L2.bel.size
                have hyv := HI2.out.view
                rw [← HJQ.out, HVF.out j (by omega)] at hyv
                have hyv := Option.some.inj hyv
                obtain ⟨hvw, hsm2⟩ := L2.sees _ hyo
                have hsame : (M1.v).same (vs[j]).v = true := by rw [hyv]; exact Vw.same_self _
                rw [hsame] at hsm2
                have hjk : (j : Int) < (g : Int) + 1 := by omega
                generalize vs[j] = y at *
                have KC := Lib.hid hkc
                have HVW := Lib.hid hvw
                have HSM := Lib.hid hsm2
                have HYV := Lib.hid hyv
                clear hyo hkc hvw hsm2 hyv hsame
                refine wp_region_held_drew (S := fun w' => Below w6.heap.size w6 w') rfl (below_drew (Below.refl _ _)) (fun hSw => ?_)
                refine wpAnyH_take (i := 0) (v := ?vz60) rfl (by kernel_rfl) (by kernel_rfl) (by kernel_rfl) (fun _ _ _ h => h) (Or.inl ⟨by rfl, ?hz60⟩) hSw ?kz60
                case hz60 => (intro w hSw; (obtain ⟨y0, y1, y2, y3, y4, y5⟩ := KC.out w hSw); go_simp; try (with_reducible rfl))
                go_simp
                refine wpAnyH_take (i := 2) (v := ?vz62) rfl (by kernel_rfl) (by kernel_rfl) (by kernel_rfl) (fun _ _ _ h => h) (Or.inl ⟨by rfl, ?hz62⟩) hSw ?kz62
                case hz62 => (intro w hSw; (obtain ⟨y0, y1, y2, y3, y4, y5⟩ := KC.out w hSw); go_simp; try (with_reducible rfl))
                go_simp
                refine wpAnyH_take (i := 3) (v := ?vz63) rfl (by kernel_rfl) (by kernel_rfl) (by kernel_rfl) (fun _ _ _ h => h) (Or.inl ⟨by rfl, ?hz63⟩) hSw ?kz63
                case hz63 => (intro w hSw; (obtain ⟨y0, y1, y2, y3, y4, y5⟩ := KC.out w hSw); go_simp; try (with_reducible rfl))
                go_simp
                refine wpAnyH_take (i := 4) (v := ?vz64) rfl (by kernel_rfl) (by kernel_rfl) (by kernel_rfl) (fun _ _ _ h => h) (Or.inl ⟨by rfl, ?hz64⟩) hSw ?kz64
                case hz64 => (intro w hSw; (obtain ⟨y0, y1, y2, y3, y4, y5⟩ := KC.out w hSw); go_simp; try (with_reducible rfl))
                go_simp
                refine wpAnyH_take (i := 5) (v := ?vz65) rfl (by kernel_rfl) (by kernel_rfl) (by kernel_rfl) (fun _ _ _ h => h) (Or.inl ⟨by rfl, ?hz65⟩) hSw ?kz65
                case hz65 => (intro w hSw; (obtain ⟨y0, y1, y2, y3, y4, y5⟩ := KC.out w hSw); go_simp; try (with_reducible rfl))
                go_simp
                refine wpAnyH_ready (rs := [1]) (by kernel_rfl) (by simp) ?_
                refine AllReadyH.cons rfl (fun K hK => ?_) AllReadyH.nil
                go_simp
                with_reducible refine (HVW.out _ hSw).mono ?_
                rintro e1 wa ⟨A1, c1, rfl, hf1, hb1'⟩
                go_simp
                refine hK.out _ _ (hSw.trans (hb1'.mono hSw.size)) (fun hSn => ?_)
                clear hK K hSw
                have hSw := hSn
                clear hSn
                go_simp
                refine wpAnyH_ready (rs := [6]) (by kernel_rfl) (by simp) ?_
                refine AllReadyH.cons rfl (fun K hK => ?_) AllReadyH.nil
                go_simp
                with_reducible refine (HSM.out _ _ _ _ hSw hf1).mono ?_
                rintro e2 wb ⟨rfl, hb2'⟩
                go_simp
                refine hK.out _ _ (hSw.trans (hb2'.mono hSw.size)) (fun hSn => ?_)
                clear hK K hSw
                have hSw := hSn
                clear hSn
                go_simp
                refine wpAnyH_take (i := 7) (v := ?vz67) rfl (by kernel_rfl) (by kernel_rfl) (by kernel_rfl) (fun _ _ _ h => h) (Or.inl ⟨by rfl, ?hz67⟩) hSw ?kz67
                case hz67 => (intro w hSw; (obtain ⟨y0, y1, y2, y3, y4, y5⟩ := KC.out w hSw); go_simp; try (with_reducible rfl))
                go_simp
                refine wpAnyH_done (by kernel_rfl) ?_ _
                have L9 := L2.below hSw
                clear hSw KC HVW HSM HYV hf1
                go_wp2
                go_roundw
                case rel => exact ⟨j, _, _, _, _, _, _, _, by omega, rfl, rfl, (by first | exact hx1 | exact hx2), L9, Lib.hid (by rw [HJQ.out]; exact HI2.out.mono (by omega) (by omega))⟩
                case measure => simp [intOf]; omega
              · rw [hr2] at hrw
                have HRW := Lib.hid hrw
                have HBR := Lib.hid hbr2
                have HFE := Lib.hid hFE
                have hv1 := HI1.out.view
                rw [← HJQ.out] at hv1
                have HVV := Lib.hid (And.intro (show M2.v.ok = true by rw [hv2]; exact HI1.out.ms.ok) (Or.inl hv1 : (vs.map (·.v))[j]? = some M1.v ∨ (M2.broken = true ∧ j + 1 < g + 1 ∧ (vs.map (·.v))[j + 1]? = some M1.v)))
                clear hrw hr2 hbr2 hFE hv2 hv1
                go_wp2_with fail
                refine HRW.out.mono ?_
                rintro e w6 ⟨rfl, P2, X2, hx2, L2⟩
                have L2 : GAt P2 w1 w6 X2 S2 m M2 := L2
                have hbk := gmbroken_any X2.d L2.man
                rw [HBR.out] at hbk
                clear HRW
                go_wp2_with fail
                refine hbk.mono ?_
                rintro e w7 ⟨rfl, rfl⟩
                clear hbk
                go_wp2_with fail
                go_meet
                exact ⟨j, _, _, _, _, _, _, _, _, _, _, _, _, by omega, rfl, hx2, L2, HFE, HVV⟩
          · rw [hsv] at hs
            unfold Ed.val at hs
            have HS := Lib.hid hs
            have HFE := Lib.hid hFE
            have hv0 := hI.out.view
            have HBR := Lib.hid hbr1
            have HVV := Lib.hid (And.intro (show M1.v.ok = true by rw [hMv]; exact hFE.ok) (Or.inr ⟨hbr1, by omega, hvj⟩ : (vs.map (·.v))[q]? = some v ∨ (M1.broken = true ∧ q + 1 < g + 1 ∧ (vs.map (·.v))[q + 1]? = some v)))
            clear hs hsv hFE hv0 hbr1 hMv hvj
            go_wp2_with fail
            refine HS.out.mono ?_
            rintro e w5 ⟨rfl, P1, X1, hx1, L1⟩
            have L1 : GAt P1 w1 w5 X1 S1 m M1 := L1
            have hbk := gmbroken_any X1.d L1.man
            rw [HBR.out] at hbk
            clear HS c0 c1 c2 c3 c4 c5 c6 L hI HOK HBR
            go_wp2_with fail
            refine hbk.mono ?_
            rintro e w7 ⟨rfl, rfl⟩
            clear hbk
            go_wp2_with fail
            go_meet
            exact ⟨q, _, _, _, _, _, _, _, _, _, _, _, _, by omega, rfl, hx1, L1, HFE, HVV⟩
        · obtain rfl : q = g := by omega
          obtain ⟨k', stop, hFE⟩ := hI.out.end_ (by omega) (by omega)
          have HFE := Lib.hid hFE
          have HVV := Lib.hid (And.intro hI.out.ms.ok (Or.inl hI.out.view : (vs.map (·.v))[q]? = some M.v ∨ (M.broken = true ∧ q + 1 < q + 1 ∧ (vs.map (·.v))[q + 1]? = some M.v)))
          clear hFE hI
          go_wp2_with fail
          go_meet
          exact ⟨q, _, _, _, _, _, _, _, _, _, _, _, _, by omega, rfl, hxd, L, HFE, HVV⟩
    case rest =>
      obtain ⟨q, S, M, X, P, v, n', G', t, l, lc, k', stop, hq, rfl, hxd, L, hFE, hVV⟩ := hcut
      clear I0 L1 hx3 hmf'
      have hld := hFE.out.load
      have hf := L.fail 0 (by omega)
      rw [hxd] at hf
      obtain ⟨S5, M5, hop, hv5, hbr5⟩ := hFE.out.open_
      have HOP := Lib.hid hop
      have HV5 := Lib.hid hv5
      have hbk := gmbroken_any X.d L.man
      clear hop hv5 hbr5
      go_wp2_with fail
      refine hf.mono ?_
      rintro e w4 ⟨rfl, L4⟩
      clear hf hbk
      have hbk := gmbroken_any X.d L4.man
      obtain ⟨br, hbr⟩ : ∃ br, br = M.broken := ⟨_, rfl⟩
      rw [← hbr] at hbk
      have hq1 : q < vs.length := by omega
      obtain ⟨j, hj⟩ : ∃ j : Nat, (q : Int) + 1 = (j : Int) := ⟨q + 1, by omega⟩
      have HJQ : Hid (j = q + 1) := Lib.hid (by omega)
      have hvv := hVV.out.2
      rw [HVF.out q hq1, ← hbr, ← HJQ.out] at hvv
      have hvok := hVV.out.1
      have HBR := Lib.hid hbr
      have HVO := Lib.hid hvok
      have HVW0 := Lib.hid hvv
      clear hvv hvok hbr hVV L
      have hld4 : (S.setFail 0).load ≤ 10000 := hld
      generalize S.setFail 0 = S4 at *
      have main : ∀ (P6 : Sl) (X6 : Dw) (W : World), X6.d = d0 → GAt P6 w1 W X6 S4 m M → True := fun _ _ _ _ _ => trivial
      clear main
      cases br with
      | true =>
        have hsb := gsave_broken X.d L4.man HBR.out.symm ⟨[], [], 0, 9, 0, 0, 0⟩ none 0 0 none 0 0
        unfold Ed.val at hsb
        have HSB := Lib.hid hsb
        clear hsb
        go_wp2_with fail
        refine hbk.mono ?_
        rintro e w5 ⟨rfl, rfl⟩
        clear hbk
        go_wp2_with fail
        refine HSB.out.mono ?_
        rintro e w5 ⟨rfl, hb5⟩
        have L5 := L4.below hb5
        have hrw := L5.rewrite hN1 HVO.out (by omega)
        have hr14 : Gw.rewriteM S4 M = (S4, M, 14) := by unfold Gw.rewriteM; rw [if_pos HBR.out.symm]
        rw [hr14] at hrw
        have HRW := Lib.hid hrw
        clear HSB hrw hr14 L4 hb5
        go_wp2_with fail
        refine HRW.out.mono ?_
        rintro e w6 ⟨rfl, P6, X6, hx6, L6⟩
        have L6 : GAt P6 w1 w6 X6 S4 m M := L6
        have hx6' := hx6.trans hxd
        have hop := L6.open_ (by omega)
        rw [HOP.out, hx6'] at hop
        have HOP5 := Lib.hid hop
        clear hop HRW hx6 L5 hxd
        go_wp2_with fail
        refine HOP5.out.mono ?_
        rintro e w7 ⟨P7, m7, X7, rfl, hx7, L7, hc7, _, hnew7, hgk7, hmf7, hmm7⟩
        have hvw := L7.view
        unfold Vw.val at hvw
        have HVW := Lib.hid hvw
        have hbk7 := gmbroken_any _ hgk7
        rw [← HBR.out] at hbk7
        clear hvw HOP5 hc7 hnew7 hmf7 hmm7
        go_wp2_with fail
        refine HVW.out.mono ?_
        rintro e w8 ⟨A8, c8, rfl, hf8, hb8⟩
        have L8 := L7.below hb8
        have hgk8 := hgk7.below hb8
        have hbxB := BoxO.new w8 #[.int .i64 M5.v.log, .slice A8 P7.n c8, .int .u64 (M5.v.floor : Int), .int .u64 (M5.v.cert : Int), .int .u64 (M5.v.at_ : Int), .int .u64 (M5.v.lease : Int)] 31
        have hbB := (Below.refl w8.heap.size w8).alloc (Nat.le_refl _) (.cells #[.int .i64 M5.v.log, .slice A8 P7.n c8, .int .u64 (M5.v.floor : Int), .int .u64 (M5.v.cert : Int), .int .u64 (M5.v.at_ : Int), .int .u64 (M5.v.lease : Int)] 31)
        have L9 := L8.below hbB
        have hgk9 := hgk8.below hbB
        have hf9 := hf8.below hbB
        clear HVW hbk7 hb8 hgk7 L7 L8 hgk8 hf8 hbB
        go_wp2_with fail
        generalize hV5e : w8.alloc (.cells #[.int .i64 M5.v.log, .slice A8 P7.n c8, .int .u64 (M5.v.floor : Int), .int .u64 (M5.v.cert : Int), .int .u64 (M5.v.at_ : Int), .int .u64 (M5.v.lease : Int)] 31) = V5 at *
        obtain ⟨gx, hgx⟩ : ∃ gx, gx = w8.heap.size := ⟨_, rfl⟩
        rw [← hgx] at hbxB ⊢
        have hn7 := L9.row.nb
        have hsm : ∀ (y : Vc), y.ok w1.heap.size V5 → ∀ w', Below V5.heap.size V5 w' → Calls Tryz.prog 27 #[M5.v.val A8 P7.n c8, y.v.val y.A y.n y.c] w' fun e w'' => e = .returned (.bool (M5.v.same y.v)) ∧ Below w'.heap.size w' w'' := fun y hy w' hb => sameview_any M5.v y.v A8 P7.n c8 y.A y.n y.c w' (by omega) (by have := hy.few; omega) (hf9.below hb).row ((hy.row.below (hb.mono L9.bel.size)).up (Nat.le_trans L9.bel.size hb.size))
        obtain ⟨hyo, hkc⟩ := HV.out.seen hq1 L9.bel L9.bel.size
        have hs1 := hsm _ hyo
        have hkx : ∀ w', Below V5.heap.size V5 w' → w'.cell? ⟨gx, 0, none⟩ = some (.int .i64 M5.v.log) ∧ w'.cell? ⟨gx, 1, none⟩ = some (.slice A8 P7.n c8) ∧ w'.cell? ⟨gx, 2, none⟩ = some (.int .u64 (M5.v.floor : Int)) ∧ w'.cell? ⟨gx, 3, none⟩ = some (.int .u64 (M5.v.cert : Int)) ∧ w'.cell? ⟨gx, 4, none⟩ = some (.int .u64 (M5.v.at_ : Int)) ∧ w'.cell? ⟨gx, 5, none⟩ = some (.int .u64 (M5.v.lease : Int)) := fun w' hb => by
          have hB := hbxB.below hb
          exact ⟨hB.cell 0, hB.cell 1, hB.cell 2, hB.cell 3, hB.cell 4, hB.cell 5⟩
        have KX := Lib.hid hkx
        have KC := Lib.hid hkc
        have HYO := Lib.hid hyo
        have hbk9 : ∀ w', Below V5.heap.size V5 w' → _ := fun w' hb => gmbroken_any _ (hgk9.below hb)
        rw [← HBR.out] at hbk9
        have HBK := Lib.hid hbk9
        have haw : ∀ w', Below V5.heap.size V5 w' → _ := fun w' hb => awake_any w' (L9.dm.env.below hb)
        have HAW := Lib.hid haw
        have HBE := Lib.hid (hb1.trans (L9.bel.mono hb1.size))
        have hqk : (q : Int) < (g : Int) + 1 := by omega
        clear hkx hkc hyo hbk9 haw hbxB hV5e hgx
        cases hsame : M5.v.same (vs[q]).v with
        | true =>
          rw [hsame] at hs1
          unfold Vw.val at hs1
          have HSM := Lib.hid hs1
          have KD : Hid (∀ w', Below V5.heap.size V5 w' → True ∧ True ∧ True ∧ True ∧ True ∧ True) := Lib.hid (fun _ _ => ⟨trivial, trivial, trivial, trivial, trivial, trivial⟩)
          clear hs1 hsame hsm
          generalize vs[q] = y at *
          refine wp_region_held_drew (S := fun w' => Below V5.heap.size V5 w') rfl (below_drew (Below.refl _ _)) (fun hSw => ?_)
          refine wpAnyH_take (i := 0) (v := ?vt0) rfl (by kernel_rfl) (by kernel_rfl) (by kernel_rfl) (fun _ _ _ h => h) (Or.inl ⟨by rfl, ?ht0⟩) hSw ?kt0
          case ht0 => (intro w hSw; (obtain ⟨x0, x1, x2, x3, x4, x5⟩ := KX.out w hSw; obtain ⟨y0, y1, y2, y3, y4, y5⟩ := KC.out w hSw; obtain ⟨z0, z1, z2, z3, z4, z5⟩ := KD.out w hSw); go_simp; try (with_reducible rfl))
          go_simp
          refine wpAnyH_take (i := 1) (v := ?vt1) rfl (by kernel_rfl) (by kernel_rfl) (by kernel_rfl) (fun _ _ _ h => h) (Or.inl ⟨by rfl, ?ht1⟩) hSw ?kt1
          case ht1 => (intro w hSw; (obtain ⟨x0, x1, x2, x3, x4, x5⟩ := KX.out w hSw; obtain ⟨y0, y1, y2, y3, y4, y5⟩ := KC.out w hSw; obtain ⟨z0, z1, z2, z3, z4, z5⟩ := KD.out w hSw); go_simp; try (with_reducible rfl))
          go_simp
          refine wpAnyH_take (i := 2) (v := ?vt2) rfl (by kernel_rfl) (by kernel_rfl) (by kernel_rfl) (fun _ _ _ h => h) (Or.inl ⟨by rfl, ?ht2⟩) hSw ?kt2
          case ht2 => (intro w hSw; (obtain ⟨x0, x1, x2, x3, x4, x5⟩ := KX.out w hSw; obtain ⟨y0, y1, y2, y3, y4, y5⟩ := KC.out w hSw; obtain ⟨z0, z1, z2, z3, z4, z5⟩ := KD.out w hSw); go_simp; try (with_reducible rfl))
          go_simp
          refine wpAnyH_take (i := 3) (v := ?vt3) rfl (by kernel_rfl) (by kernel_rfl) (by kernel_rfl) (fun _ _ _ h => h) (Or.inl ⟨by rfl, ?ht3⟩) hSw ?kt3
          case ht3 => (intro w hSw; (obtain ⟨x0, x1, x2, x3, x4, x5⟩ := KX.out w hSw; obtain ⟨y0, y1, y2, y3, y4, y5⟩ := KC.out w hSw; obtain ⟨z0, z1, z2, z3, z4, z5⟩ := KD.out w hSw); go_simp; try (with_reducible rfl))
          go_simp
          refine wpAnyH_take (i := 4) (v := ?vt4) rfl (by kernel_rfl) (by kernel_rfl) (by kernel_rfl) (fun _ _ _ h => h) (Or.inl ⟨by rfl, ?ht4⟩) hSw ?kt4
          case ht4 => (intro w hSw; (obtain ⟨x0, x1, x2, x3, x4, x5⟩ := KX.out w hSw; obtain ⟨y0, y1, y2, y3, y4, y5⟩ := KC.out w hSw; obtain ⟨z0, z1, z2, z3, z4, z5⟩ := KD.out w hSw); go_simp; try (with_reducible rfl))
          go_simp
          refine wpAnyH_ready (rs := [5]) (by kernel_rfl) (by simp) ?_
          refine AllReadyH.cons rfl (fun K hK => ?_) AllReadyH.nil
          go_simp
          with_reducible refine (HSM.out _ hSw).mono ?_
          rintro e2 wb ⟨rfl, hb2'⟩
          go_simp
          refine hK.out _ _ (hSw.trans (hb2'.mono hSw.size)) (fun hSn => ?_)
          clear hK K hSw
          have hSw := hSn
          clear hSn
          go_simp
          refine wpAnyH_take (i := 6) (v := ?vt6) rfl (by kernel_rfl) (by kernel_rfl) (by kernel_rfl) (fun _ _ _ h => h) (Or.inl ⟨by rfl, ?ht6⟩) hSw ?kt6
          case ht6 => (intro w hSw; (obtain ⟨x0, x1, x2, x3, x4, x5⟩ := KX.out w hSw; obtain ⟨y0, y1, y2, y3, y4, y5⟩ := KC.out w hSw; obtain ⟨z0, z1, z2, z3, z4, z5⟩ := KD.out w hSw); go_simp; try (with_reducible rfl))
          go_simp
          refine wpAnyH_take (i := 7) (v := undef) rfl (by kernel_rfl) (by kernel_rfl) (by kernel_rfl) (fun _ _ _ h => h) (Or.inr ⟨by rfl, rfl⟩) hSw ?_
          go_simp
          refine wpAnyH_take (i := 8) (v := undef) rfl (by kernel_rfl) (by kernel_rfl) (by kernel_rfl) (fun _ _ _ h => h) (Or.inr ⟨by rfl, rfl⟩) hSw ?_
          go_simp
          refine wpAnyH_take (i := 9) (v := undef) rfl (by kernel_rfl) (by kernel_rfl) (by kernel_rfl) (fun _ _ _ h => h) (Or.inr ⟨by rfl, rfl⟩) hSw ?_
          go_simp
          refine wpAnyH_take (i := 10) (v := undef) rfl (by kernel_rfl) (by kernel_rfl) (by kernel_rfl) (fun _ _ _ h => h) (Or.inr ⟨by rfl, rfl⟩) hSw ?_
          go_simp
          refine wpAnyH_take (i := 11) (v := undef) rfl (by kernel_rfl) (by kernel_rfl) (by kernel_rfl) (fun _ _ _ h => h) (Or.inr ⟨by rfl, rfl⟩) hSw ?_
          go_simp
          refine wpAnyH_take (i := 12) (v := undef) rfl (by kernel_rfl) (by kernel_rfl) (by kernel_rfl) (fun _ _ _ h => h) (Or.inr ⟨by rfl, rfl⟩) hSw ?_
          go_simp
          refine wpAnyH_take (i := 13) (v := undef) rfl (by kernel_rfl) (by kernel_rfl) (by kernel_rfl) (fun _ _ _ h => h) (Or.inr ⟨by rfl, rfl⟩) hSw ?_
          go_simp
          refine wpAnyH_take (i := 14) (v := undef) rfl (by kernel_rfl) (by kernel_rfl) (by kernel_rfl) (fun _ _ _ h => h) (Or.inr ⟨by rfl, rfl⟩) hSw ?_
          go_simp
          refine wpAnyH_take (i := 15) (v := undef) rfl (by kernel_rfl) (by kernel_rfl) (by kernel_rfl) (fun _ _ _ h => h) (Or.inr ⟨by rfl, rfl⟩) hSw ?_
          go_simp
          refine wpAnyH_take (i := 16) (v := undef) rfl (by kernel_rfl) (by kernel_rfl) (by kernel_rfl) (fun _ _ _ h => h) (Or.inr ⟨by rfl, rfl⟩) hSw ?_
          go_simp
          refine wpAnyH_take (i := 17) (v := undef) rfl (by kernel_rfl) (by kernel_rfl) (by kernel_rfl) (fun _ _ _ h => h) (Or.inr ⟨by rfl, rfl⟩) hSw ?_
          go_simp
          refine wpAnyH_take (i := 18) (v := undef) rfl (by kernel_rfl) (by kernel_rfl) (by kernel_rfl) (fun _ _ _ h => h) (Or.inr ⟨by rfl, rfl⟩) hSw ?_
          go_simp
          refine wpAnyH_take (i := 19) (v := undef) rfl (by kernel_rfl) (by kernel_rfl) (by kernel_rfl) (fun _ _ _ h => h) (Or.inr ⟨by rfl, rfl⟩) hSw ?_
          go_simp
          refine wpAnyH_take (i := 20) (v := undef) rfl (by kernel_rfl) (by kernel_rfl) (by kernel_rfl) (fun _ _ _ h => h) (Or.inr ⟨by rfl, rfl⟩) hSw ?_
          go_simp
          refine wpAnyH_take (i := 21) (v := undef) rfl (by kernel_rfl) (by kernel_rfl) (by kernel_rfl) (fun _ _ _ h => h) (Or.inr ⟨by rfl, rfl⟩) hSw ?_
          go_simp
          refine wpAnyH_take (i := 22) (v := undef) rfl (by kernel_rfl) (by kernel_rfl) (by kernel_rfl) (fun _ _ _ h => h) (Or.inr ⟨by rfl, rfl⟩) hSw ?_
          go_simp
          refine wpAnyH_take (i := 23) (v := undef) rfl (by kernel_rfl) (by kernel_rfl) (by kernel_rfl) (fun _ _ _ h => h) (Or.inr ⟨by rfl, rfl⟩) hSw ?_
          go_simp
          refine wpAnyH_take (i := 24) (v := undef) rfl (by kernel_rfl) (by kernel_rfl) (by kernel_rfl) (fun _ _ _ h => h) (Or.inr ⟨by rfl, rfl⟩) hSw ?_
          go_simp
          refine wpAnyH_take (i := 25) (v := ?vt25) rfl (by kernel_rfl) (by kernel_rfl) (by kernel_rfl) (fun _ _ _ h => h) (Or.inl ⟨by rfl, ?ht25⟩) hSw ?kt25
          case ht25 => (intro w hSw; (obtain ⟨x0, x1, x2, x3, x4, x5⟩ := KX.out w hSw; obtain ⟨y0, y1, y2, y3, y4, y5⟩ := KC.out w hSw; obtain ⟨z0, z1, z2, z3, z4, z5⟩ := KD.out w hSw); go_simp; try (with_reducible rfl))
          go_simp
          refine wpAnyH_take (i := 26) (v := ?vt26) rfl (by kernel_rfl) (by kernel_rfl) (by kernel_rfl) (fun _ _ _ h => h) (Or.inl ⟨by rfl, ?ht26⟩) hSw ?kt26
          case ht26 => (intro w hSw; (obtain ⟨x0, x1, x2, x3, x4, x5⟩ := KX.out w hSw; obtain ⟨y0, y1, y2, y3, y4, y5⟩ := KC.out w hSw; obtain ⟨z0, z1, z2, z3, z4, z5⟩ := KD.out w hSw); go_simp; try (with_reducible rfl))
          go_simp
          refine wpAnyH_ready (rs := [27]) (by kernel_rfl) (by simp) ?_
          refine AllReadyH.cons rfl (fun K hK => ?_) AllReadyH.nil
          go_simp
          with_reducible refine (HAW.out _ hSw).mono ?_
          rintro e5 wf ⟨rfl, hb5'⟩
          go_simp
          refine hK.out _ _ (hSw.trans (hb5'.mono hSw.size)) (fun hSn => ?_)
          clear hK K hSw
          have hSw := hSn
          clear hSn
          go_simp
          refine wpAnyH_take (i := 28) (v := ?vt28) rfl (by kernel_rfl) (by kernel_rfl) (by kernel_rfl) (fun _ _ _ h => h) (Or.inl ⟨by rfl, ?ht28⟩) hSw ?kt28
          case ht28 => (intro w hSw; (obtain ⟨x0, x1, x2, x3, x4, x5⟩ := KX.out w hSw; obtain ⟨y0, y1, y2, y3, y4, y5⟩ := KC.out w hSw; obtain ⟨z0, z1, z2, z3, z4, z5⟩ := KD.out w hSw); go_simp; try (with_reducible rfl))
          go_simp
          refine wpAnyH_take (i := 29) (v := ?vt29) rfl (by kernel_rfl) (by kernel_rfl) (by kernel_rfl) (fun _ _ _ h => h) (Or.inl ⟨by rfl, ?ht29⟩) hSw ?kt29
          case ht29 => (intro w hSw; (obtain ⟨x0, x1, x2, x3, x4, x5⟩ := KX.out w hSw; obtain ⟨y0, y1, y2, y3, y4, y5⟩ := KC.out w hSw; obtain ⟨z0, z1, z2, z3, z4, z5⟩ := KD.out w hSw); go_simp; try (with_reducible rfl))
          go_simp
          refine wpAnyH_done (by kernel_rfl) ?_ _
          have hfin := later_ HBE.out hSw
          clear hSw
          go_wp2
          go_ret
          exact ⟨rfl, hfin⟩
        | false =>
          have hj1 : j ≤ g ∧ (vs.map (·.v))[j]? = some v := by
            rcases HVW0.out with h1 | ⟨_, h2, h3⟩
            · exfalso
              rw [Option.some.inj h1, HV5.out, Vw.same_self] at hsame
              cases hsame
            · exact ⟨by omega, h3⟩
          obtain ⟨hjg, hj2⟩ := hj1
          rw [HVF.out j (by omega)] at hj2
          have hj3 := Option.some.inj hj2
          obtain ⟨hyo2, hkd⟩ := HV.out.seen (show j < vs.length by omega) L9.bel L9.bel.size
          have hjk2 : decide ((j : Int) < (g : Int) + 1) = true := by rw [decide_eq_true_eq]; omega
          have hjk3 : j < g + 1 := by omega
          have hjk4 : decide (j < g + 1) = true := by rw [decide_eq_true_eq]; omega
          have hjw : IntKind.i64.wrap (j : Int) = (j : Int) := IntWalk.i64_in _ (by omega)
          have hs2 := hsm _ hyo2
          have hsame2 : M5.v.same (vs[j]).v = true := by rw [hj3, HV5.out]; exact Vw.same_self _
          rw [hsame2] at hs2
          rw [hsame] at hs1
          have hjk : (j : Int) < (g : Int) + 1 := by omega
          unfold Vw.val at hs1 hs2
          have HSM := Lib.hid hs1
          have HSM2 := Lib.hid hs2
          have KD := Lib.hid hkd
          clear hs1 hsame hsm hs2 hsame2 hj2 hj3 hkd hyo2
          generalize vs[q] = y at *
          generalize vs[j] = y2 at *
          refine wp_region_held_drew (S := fun w' => Below V5.heap.size V5 w') rfl (below_drew (Below.refl _ _)) (fun hSw => ?_)
          refine wpAnyH_take (i := 0) (v := ?vu0) rfl (by kernel_rfl) (by kernel_rfl) (by kernel_rfl) (fun _ _ _ h => h) (Or.inl ⟨by rfl, ?hu0⟩) hSw ?ku0
          case hu0 => (intro w hSw; (obtain ⟨x0, x1, x2, x3, x4, x5⟩ := KX.out w hSw; obtain ⟨y0, y1, y2, y3, y4, y5⟩ := KC.out w hSw; obtain ⟨z0, z1, z2, z3, z4, z5⟩ := KD.out w hSw); go_simp; try (with_reducible rfl))
          go_simp
          refine wpAnyH_take (i := 1) (v := ?vu1) rfl (by kernel_rfl) (by kernel_rfl) (by kernel_rfl) (fun _ _ _ h => h) (Or.inl ⟨by rfl, ?hu1⟩) hSw ?ku1
          case hu1 => (intro w hSw; (obtain ⟨x0, x1, x2, x3, x4, x5⟩ := KX.out w hSw; obtain ⟨y0, y1, y2, y3, y4, y5⟩ := KC.out w hSw; obtain ⟨z0, z1, z2, z3, z4, z5⟩ := KD.out w hSw); go_simp; try (with_reducible rfl))
          go_simp
          refine wpAnyH_take (i := 2) (v := ?vu2) rfl (by kernel_rfl) (by kernel_rfl) (by kernel_rfl) (fun _ _ _ h => h) (Or.inl ⟨by rfl, ?hu2⟩) hSw ?ku2
          case hu2 => (intro w hSw; (obtain ⟨x0, x1, x2, x3, x4, x5⟩ := KX.out w hSw; obtain ⟨y0, y1, y2, y3, y4, y5⟩ := KC.out w hSw; obtain ⟨z0, z1, z2, z3, z4, z5⟩ := KD.out w hSw); go_simp; try (with_reducible rfl))
          go_simp
          refine wpAnyH_take (i := 3) (v := ?vu3) rfl (by kernel_rfl) (by kernel_rfl) (by kernel_rfl) (fun _ _ _ h => h) (Or.inl ⟨by rfl, ?hu3⟩) hSw ?ku3
          case hu3 => (intro w hSw; (obtain ⟨x0, x1, x2, x3, x4, x5⟩ := KX.out w hSw; obtain ⟨y0, y1, y2, y3, y4, y5⟩ := KC.out w hSw; obtain ⟨z0, z1, z2, z3, z4, z5⟩ := KD.out w hSw); go_simp; try (with_reducible rfl))
          go_simp
          refine wpAnyH_take (i := 4) (v := ?vu4) rfl (by kernel_rfl) (by kernel_rfl) (by kernel_rfl) (fun _ _ _ h => h) (Or.inl ⟨by rfl, ?hu4⟩) hSw ?ku4
          case hu4 => (intro w hSw; (obtain ⟨x0, x1, x2, x3, x4, x5⟩ := KX.out w hSw; obtain ⟨y0, y1, y2, y3, y4, y5⟩ := KC.out w hSw; obtain ⟨z0, z1, z2, z3, z4, z5⟩ := KD.out w hSw); go_simp; try (with_reducible rfl))
          go_simp
          refine wpAnyH_ready (rs := [5]) (by kernel_rfl) (by simp) ?_
          refine AllReadyH.cons rfl (fun K hK => ?_) AllReadyH.nil
          go_simp
          with_reducible refine (HSM.out _ hSw).mono ?_
          rintro e2 wb ⟨rfl, hb2'⟩
          go_simp
          refine hK.out _ _ (hSw.trans (hb2'.mono hSw.size)) (fun hSn => ?_)
          clear hK K hSw
          have hSw := hSn
          clear hSn
          go_simp
          refine wpAnyH_take (i := 6) (v := ?vu6) rfl (by kernel_rfl) (by kernel_rfl) (by kernel_rfl) (fun _ _ _ h => h) (Or.inl ⟨by rfl, ?hu6⟩) hSw ?ku6
          case hu6 => (intro w hSw; (obtain ⟨x0, x1, x2, x3, x4, x5⟩ := KX.out w hSw; obtain ⟨y0, y1, y2, y3, y4, y5⟩ := KC.out w hSw; obtain ⟨z0, z1, z2, z3, z4, z5⟩ := KD.out w hSw); go_simp; try (with_reducible rfl))
          go_simp
          refine wpAnyH_take (i := 7) (v := ?vu7) rfl (by kernel_rfl) (by kernel_rfl) (by kernel_rfl) (fun _ _ _ h => h) (Or.inl ⟨by rfl, ?hu7⟩) hSw ?ku7
          case hu7 => (intro w hSw; (obtain ⟨x0, x1, x2, x3, x4, x5⟩ := KX.out w hSw; obtain ⟨y0, y1, y2, y3, y4, y5⟩ := KC.out w hSw; obtain ⟨z0, z1, z2, z3, z4, z5⟩ := KD.out w hSw); go_simp; try (with_reducible rfl))
          go_simp
          refine wpAnyH_ready (rs := [8]) (by kernel_rfl) (by simp) ?_
          refine AllReadyH.cons rfl (fun K hK => ?_) AllReadyH.nil
          go_simp
          with_reducible refine (HBK.out _ hSw).mono ?_
          rintro e3 wd ⟨rfl, rfl⟩
          go_simp
          refine hK.out _ _ hSw (fun hSn => ?_)
          clear hK K hSw
          have hSw := hSn
          clear hSn
          go_simp
          refine wpAnyH_take (i := 9) (v := ?vu9) rfl (by kernel_rfl) (by kernel_rfl) (by kernel_rfl) (fun _ _ _ h => h) (Or.inl ⟨by rfl, ?hu9⟩) hSw ?ku9
          case hu9 => (intro w hSw; (obtain ⟨x0, x1, x2, x3, x4, x5⟩ := KX.out w hSw; obtain ⟨y0, y1, y2, y3, y4, y5⟩ := KC.out w hSw; obtain ⟨z0, z1, z2, z3, z4, z5⟩ := KD.out w hSw); go_simp; try (with_reducible rfl))
          go_simp
          refine wpAnyH_take (i := 10) (v := ?vu10) rfl (by kernel_rfl) (by kernel_rfl) (by kernel_rfl) (fun _ _ _ h => h) (Or.inl ⟨by rfl, ?hu10⟩) hSw ?ku10
          case hu10 => (intro w hSw; (obtain ⟨x0, x1, x2, x3, x4, x5⟩ := KX.out w hSw; obtain ⟨y0, y1, y2, y3, y4, y5⟩ := KC.out w hSw; obtain ⟨z0, z1, z2, z3, z4, z5⟩ := KD.out w hSw); go_simp; try (with_reducible rfl))
          go_simp
          refine wpAnyH_take (i := 11) (v := ?vu11) rfl (by kernel_rfl) (by kernel_rfl) (by kernel_rfl) (fun _ _ _ h => h) (Or.inl ⟨by rfl, ?hu11⟩) hSw ?ku11
          case hu11 => (intro w hSw; (obtain ⟨x0, x1, x2, x3, x4, x5⟩ := KX.out w hSw; obtain ⟨y0, y1, y2, y3, y4, y5⟩ := KC.out w hSw; obtain ⟨z0, z1, z2, z3, z4, z5⟩ := KD.out w hSw); go_simp; try (with_reducible rfl))
          go_simp
          refine wpAnyH_take (i := 12) (v := ?vu12) rfl (by kernel_rfl) (by kernel_rfl) (by kernel_rfl) (fun _ _ _ h => h) (Or.inl ⟨by rfl, ?hu12⟩) hSw ?ku12
          case hu12 => (intro w hSw; (obtain ⟨x0, x1, x2, x3, x4, x5⟩ := KX.out w hSw; obtain ⟨y0, y1, y2, y3, y4, y5⟩ := KC.out w hSw; obtain ⟨z0, z1, z2, z3, z4, z5⟩ := KD.out w hSw); go_simp; try (with_reducible rfl))
          go_simp
          refine wpAnyH_take (i := 13) (v := ?vu13) rfl (by kernel_rfl) (by kernel_rfl) (by kernel_rfl) (fun _ _ _ h => h) (Or.inl ⟨by rfl, ?hu13⟩) hSw ?ku13
          case hu13 => (intro w hSw; (obtain ⟨x0, x1, x2, x3, x4, x5⟩ := KX.out w hSw; obtain ⟨y0, y1, y2, y3, y4, y5⟩ := KC.out w hSw; obtain ⟨z0, z1, z2, z3, z4, z5⟩ := KD.out w hSw); go_simp; try (with_reducible rfl))
          go_simp
          refine wpAnyH_take (i := 14) (v := ?vu14) rfl (by kernel_rfl) (by kernel_rfl) (by kernel_rfl) (fun _ _ _ h => h) (Or.inl ⟨by rfl, ?hu14⟩) hSw ?ku14
          case hu14 => (intro w hSw; (obtain ⟨x0, x1, x2, x3, x4, x5⟩ := KX.out w hSw; obtain ⟨y0, y1, y2, y3, y4, y5⟩ := KC.out w hSw; obtain ⟨z0, z1, z2, z3, z4, z5⟩ := KD.out w hSw); go_simp; try (with_reducible rfl))
          go_simp
          refine wpAnyH_take (i := 15) (v := ?vu15) rfl (by kernel_rfl) (by kernel_rfl) (by kernel_rfl) (fun _ _ _ h => h) (Or.inl ⟨by rfl, ?hu15⟩) hSw ?ku15
          case hu15 => (intro w hSw; (obtain ⟨x0, x1, x2, x3, x4, x5⟩ := KX.out w hSw; obtain ⟨y0, y1, y2, y3, y4, y5⟩ := KC.out w hSw; obtain ⟨z0, z1, z2, z3, z4, z5⟩ := KD.out w hSw); go_simp; try (with_reducible rfl))
          go_simp
          refine wpAnyH_take (i := 16) (v := ?vu16) rfl (by kernel_rfl) (by kernel_rfl) (by kernel_rfl) (fun _ _ _ h => h) (Or.inl ⟨by rfl, ?hu16⟩) hSw ?ku16
          case hu16 => (intro w hSw; (obtain ⟨x0, x1, x2, x3, x4, x5⟩ := KX.out w hSw; obtain ⟨y0, y1, y2, y3, y4, y5⟩ := KC.out w hSw; obtain ⟨z0, z1, z2, z3, z4, z5⟩ := KD.out w hSw); go_simp; try (with_reducible rfl))
          go_simp
          refine wpAnyH_take (i := 17) (v := ?vu17) rfl (by kernel_rfl) (by kernel_rfl) (by kernel_rfl) (fun _ _ _ h => h) (Or.inl ⟨by rfl, ?hu17⟩) hSw ?ku17
          case hu17 => (intro w hSw; (obtain ⟨x0, x1, x2, x3, x4, x5⟩ := KX.out w hSw; obtain ⟨y0, y1, y2, y3, y4, y5⟩ := KC.out w hSw; obtain ⟨z0, z1, z2, z3, z4, z5⟩ := KD.out w hSw); go_simp; try (with_reducible rfl))
          go_simp
          refine wpAnyH_take (i := 18) (v := ?vu18) rfl (by kernel_rfl) (by kernel_rfl) (by kernel_rfl) (fun _ _ _ h => h) (Or.inl ⟨by rfl, ?hu18⟩) hSw ?ku18
          case hu18 => (intro w hSw; (obtain ⟨x0, x1, x2, x3, x4, x5⟩ := KX.out w hSw; obtain ⟨y0, y1, y2, y3, y4, y5⟩ := KC.out w hSw; obtain ⟨z0, z1, z2, z3, z4, z5⟩ := KD.out w hSw); go_simp; try (with_reducible rfl))
          go_simp
          refine wpAnyH_take (i := 19) (v := ?vu19) rfl (by kernel_rfl) (by kernel_rfl) (by kernel_rfl) (fun _ _ _ h => h) (Or.inl ⟨by rfl, ?hu19⟩) hSw ?ku19
          case hu19 => (intro w hSw; (obtain ⟨x0, x1, x2, x3, x4, x5⟩ := KX.out w hSw; obtain ⟨y0, y1, y2, y3, y4, y5⟩ := KC.out w hSw; obtain ⟨z0, z1, z2, z3, z4, z5⟩ := KD.out w hSw); go_simp; try (with_reducible rfl))
          go_simp
          refine wpAnyH_take (i := 20) (v := ?vu20) rfl (by kernel_rfl) (by kernel_rfl) (by kernel_rfl) (fun _ _ _ h => h) (Or.inl ⟨by rfl, ?hu20⟩) hSw ?ku20
          case hu20 => (intro w hSw; (obtain ⟨x0, x1, x2, x3, x4, x5⟩ := KX.out w hSw; obtain ⟨y0, y1, y2, y3, y4, y5⟩ := KC.out w hSw; obtain ⟨z0, z1, z2, z3, z4, z5⟩ := KD.out w hSw); go_simp; try (with_reducible rfl))
          go_simp
          refine wpAnyH_take (i := 21) (v := ?vu21) rfl (by kernel_rfl) (by kernel_rfl) (by kernel_rfl) (fun _ _ _ h => h) (Or.inl ⟨by rfl, ?hu21⟩) hSw ?ku21
          case hu21 => (intro w hSw; (obtain ⟨x0, x1, x2, x3, x4, x5⟩ := KX.out w hSw; obtain ⟨y0, y1, y2, y3, y4, y5⟩ := KC.out w hSw; obtain ⟨z0, z1, z2, z3, z4, z5⟩ := KD.out w hSw); go_simp; try (with_reducible rfl))
          go_simp
          refine wpAnyH_take (i := 22) (v := ?vu22) rfl (by kernel_rfl) (by kernel_rfl) (by kernel_rfl) (fun _ _ _ h => h) (Or.inl ⟨by rfl, ?hu22⟩) hSw ?ku22
          case hu22 => (intro w hSw; (obtain ⟨x0, x1, x2, x3, x4, x5⟩ := KX.out w hSw; obtain ⟨y0, y1, y2, y3, y4, y5⟩ := KC.out w hSw; obtain ⟨z0, z1, z2, z3, z4, z5⟩ := KD.out w hSw); go_simp; try (with_reducible rfl))
          go_simp
          refine wpAnyH_ready (rs := [23]) (by kernel_rfl) (by simp) ?_
          refine AllReadyH.cons rfl (fun K hK => ?_) AllReadyH.nil
          go_simp
          with_reducible refine (HSM2.out _ hSw).mono ?_
          rintro e4 we ⟨rfl, hb4'⟩
          go_simp
          refine hK.out _ _ (hSw.trans (hb4'.mono hSw.size)) (fun hSn => ?_)
          clear hK K hSw
          have hSw := hSn
          clear hSn
          go_simp
          refine wpAnyH_take (i := 24) (v := ?vu24) rfl (by kernel_rfl) (by kernel_rfl) (by kernel_rfl) (fun _ _ _ h => h) (Or.inl ⟨by rfl, ?hu24⟩) hSw ?ku24
          case hu24 => (intro w hSw; (obtain ⟨x0, x1, x2, x3, x4, x5⟩ := KX.out w hSw; obtain ⟨y0, y1, y2, y3, y4, y5⟩ := KC.out w hSw; obtain ⟨z0, z1, z2, z3, z4, z5⟩ := KD.out w hSw); go_simp; try (with_reducible rfl))
          go_simp
          refine wpAnyH_take (i := 25) (v := ?vu25) rfl (by kernel_rfl) (by kernel_rfl) (by kernel_rfl) (fun _ _ _ h => h) (Or.inl ⟨by rfl, ?hu25⟩) hSw ?ku25
          case hu25 => (intro w hSw; (obtain ⟨x0, x1, x2, x3, x4, x5⟩ := KX.out w hSw; obtain ⟨y0, y1, y2, y3, y4, y5⟩ := KC.out w hSw; obtain ⟨z0, z1, z2, z3, z4, z5⟩ := KD.out w hSw); go_simp; try (with_reducible rfl))
          go_simp
          refine wpAnyH_take (i := 26) (v := ?vu26) rfl (by kernel_rfl) (by kernel_rfl) (by kernel_rfl) (fun _ _ _ h => h) (Or.inl ⟨by rfl, ?hu26⟩) hSw ?ku26
          case hu26 => (intro w hSw; (obtain ⟨x0, x1, x2, x3, x4, x5⟩ := KX.out w hSw; obtain ⟨y0, y1, y2, y3, y4, y5⟩ := KC.out w hSw; obtain ⟨z0, z1, z2, z3, z4, z5⟩ := KD.out w hSw); go_simp; try (with_reducible rfl))
          go_simp
          refine wpAnyH_ready (rs := [27]) (by kernel_rfl) (by simp) ?_
          refine AllReadyH.cons rfl (fun K hK => ?_) AllReadyH.nil
          go_simp
          with_reducible refine (HAW.out _ hSw).mono ?_
          rintro e5 wf ⟨rfl, hb5'⟩
          go_simp
          refine hK.out _ _ (hSw.trans (hb5'.mono hSw.size)) (fun hSn => ?_)
          clear hK K hSw
          have hSw := hSn
          clear hSn
          go_simp
          refine wpAnyH_take (i := 28) (v := ?vu28) rfl (by kernel_rfl) (by kernel_rfl) (by kernel_rfl) (fun _ _ _ h => h) (Or.inl ⟨by rfl, ?hu28⟩) hSw ?ku28
          case hu28 => (intro w hSw; (obtain ⟨x0, x1, x2, x3, x4, x5⟩ := KX.out w hSw; obtain ⟨y0, y1, y2, y3, y4, y5⟩ := KC.out w hSw; obtain ⟨z0, z1, z2, z3, z4, z5⟩ := KD.out w hSw); go_simp; try (with_reducible rfl))
          go_simp
          refine wpAnyH_take (i := 29) (v := ?vu29) rfl (by kernel_rfl) (by kernel_rfl) (by kernel_rfl) (fun _ _ _ h => h) (Or.inl ⟨by rfl, ?hu29⟩) hSw ?ku29
          case hu29 => (intro w hSw; (obtain ⟨x0, x1, x2, x3, x4, x5⟩ := KX.out w hSw; obtain ⟨y0, y1, y2, y3, y4, y5⟩ := KC.out w hSw; obtain ⟨z0, z1, z2, z3, z4, z5⟩ := KD.out w hSw); go_simp; try (with_reducible rfl))
          go_simp
          refine wpAnyH_done (by kernel_rfl) ?_ _
          have hfin := later_ HBE.out hSw
          clear hSw
          go_wp2
          go_ret
          exact ⟨rfl, hfin⟩
      | false =>
        go_wp2_with fail
        refine hbk.mono ?_
        rintro e w5 ⟨rfl, rfl⟩
        clear hbk
        have hop := L4.open_ (by omega)
        rw [HOP.out, hxd] at hop
        have HOP5 := Lib.hid hop
        clear hop hxd
        go_wp2_with fail
        refine HOP5.out.mono ?_
        rintro e w7 ⟨P7, m7, X7, rfl, hx7, L7, hc7, _, hnew7, hgk7, hmf7, hmm7⟩
        have hvw := L7.view
        unfold Vw.val at hvw
        have HVW := Lib.hid hvw
        have hbk7 := gmbroken_any _ hgk7
        rw [← HBR.out] at hbk7
        clear hvw HOP5 hc7 hnew7 hmf7 hmm7
        go_wp2_with fail
        refine HVW.out.mono ?_
        rintro e w8 ⟨A8, c8, rfl, hf8, hb8⟩
        have L8 := L7.below hb8
        have hgk8 := hgk7.below hb8
        have hbxB := BoxO.new w8 #[.int .i64 M5.v.log, .slice A8 P7.n c8, .int .u64 (M5.v.floor : Int), .int .u64 (M5.v.cert : Int), .int .u64 (M5.v.at_ : Int), .int .u64 (M5.v.lease : Int)] 31
        have hbB := (Below.refl w8.heap.size w8).alloc (Nat.le_refl _) (.cells #[.int .i64 M5.v.log, .slice A8 P7.n c8, .int .u64 (M5.v.floor : Int), .int .u64 (M5.v.cert : Int), .int .u64 (M5.v.at_ : Int), .int .u64 (M5.v.lease : Int)] 31)
        have L9 := L8.below hbB
        have hgk9 := hgk8.below hbB
        have hf9 := hf8.below hbB
        clear HVW hbk7 hb8 hgk7 L7 L8 hgk8 hf8 hbB
        go_wp2_with fail
        generalize hV5e : w8.alloc (.cells #[.int .i64 M5.v.log, .slice A8 P7.n c8, .int .u64 (M5.v.floor : Int), .int .u64 (M5.v.cert : Int), .int .u64 (M5.v.at_ : Int), .int .u64 (M5.v.lease : Int)] 31) = V5 at *
        obtain ⟨gx, hgx⟩ : ∃ gx, gx = w8.heap.size := ⟨_, rfl⟩
        rw [← hgx] at hbxB ⊢
        have hn7 := L9.row.nb
        have hsm : ∀ (y : Vc), y.ok w1.heap.size V5 → ∀ w', Below V5.heap.size V5 w' → Calls Tryz.prog 27 #[M5.v.val A8 P7.n c8, y.v.val y.A y.n y.c] w' fun e w'' => e = .returned (.bool (M5.v.same y.v)) ∧ Below w'.heap.size w' w'' := fun y hy w' hb => sameview_any M5.v y.v A8 P7.n c8 y.A y.n y.c w' (by omega) (by have := hy.few; omega) (hf9.below hb).row ((hy.row.below (hb.mono L9.bel.size)).up (Nat.le_trans L9.bel.size hb.size))
        obtain ⟨hyo, hkc⟩ := HV.out.seen hq1 L9.bel L9.bel.size
        have hs1 := hsm _ hyo
        have hkx : ∀ w', Below V5.heap.size V5 w' → w'.cell? ⟨gx, 0, none⟩ = some (.int .i64 M5.v.log) ∧ w'.cell? ⟨gx, 1, none⟩ = some (.slice A8 P7.n c8) ∧ w'.cell? ⟨gx, 2, none⟩ = some (.int .u64 (M5.v.floor : Int)) ∧ w'.cell? ⟨gx, 3, none⟩ = some (.int .u64 (M5.v.cert : Int)) ∧ w'.cell? ⟨gx, 4, none⟩ = some (.int .u64 (M5.v.at_ : Int)) ∧ w'.cell? ⟨gx, 5, none⟩ = some (.int .u64 (M5.v.lease : Int)) := fun w' hb => by
          have hB := hbxB.below hb
          exact ⟨hB.cell 0, hB.cell 1, hB.cell 2, hB.cell 3, hB.cell 4, hB.cell 5⟩
        have KX := Lib.hid hkx
        have KC := Lib.hid hkc
        have HYO := Lib.hid hyo
        have hbk9 : ∀ w', Below V5.heap.size V5 w' → _ := fun w' hb => gmbroken_any _ (hgk9.below hb)
        rw [← HBR.out] at hbk9
        have HBK := Lib.hid hbk9
        have haw : ∀ w', Below V5.heap.size V5 w' → _ := fun w' hb => awake_any w' (L9.dm.env.below hb)
        have HAW := Lib.hid haw
        have HBE := Lib.hid (hb1.trans (L9.bel.mono hb1.size))
        have hqk : (q : Int) < (g : Int) + 1 := by omega
        clear hkx hkc hyo hbk9 haw hbxB hV5e hgx
        have hsame : M5.v.same (vs[q]).v = true := same_or HVW0.out rfl HV5.out
        rw [hsame] at hs1
        unfold Vw.val at hs1
        have HSM := Lib.hid hs1
        have KD : Hid (∀ w', Below V5.heap.size V5 w' → True ∧ True ∧ True ∧ True ∧ True ∧ True) := Lib.hid (fun _ _ => ⟨trivial, trivial, trivial, trivial, trivial, trivial⟩)
        clear hs1 hsame hsm
        generalize vs[q] = y at *
        refine wp_region_held_drew (S := fun w' => Below V5.heap.size V5 w') rfl (below_drew (Below.refl _ _)) (fun hSw => ?_)
        refine wpAnyH_take (i := 0) (v := ?vf0) rfl (by kernel_rfl) (by kernel_rfl) (by kernel_rfl) (fun _ _ _ h => h) (Or.inl ⟨by rfl, ?hf0⟩) hSw ?kf0
        case hf0 => (intro w hSw; (obtain ⟨x0, x1, x2, x3, x4, x5⟩ := KX.out w hSw; obtain ⟨y0, y1, y2, y3, y4, y5⟩ := KC.out w hSw; obtain ⟨z0, z1, z2, z3, z4, z5⟩ := KD.out w hSw); go_simp; try (with_reducible rfl))
        go_simp
        refine wpAnyH_take (i := 1) (v := ?vf1) rfl (by kernel_rfl) (by kernel_rfl) (by kernel_rfl) (fun _ _ _ h => h) (Or.inl ⟨by rfl, ?hf1⟩) hSw ?kf1
        case hf1 => (intro w hSw; (obtain ⟨x0, x1, x2, x3, x4, x5⟩ := KX.out w hSw; obtain ⟨y0, y1, y2, y3, y4, y5⟩ := KC.out w hSw; obtain ⟨z0, z1, z2, z3, z4, z5⟩ := KD.out w hSw); go_simp; try (with_reducible rfl))
        go_simp
        refine wpAnyH_take (i := 2) (v := ?vf2) rfl (by kernel_rfl) (by kernel_rfl) (by kernel_rfl) (fun _ _ _ h => h) (Or.inl ⟨by rfl, ?hf2⟩) hSw ?kf2
        case hf2 => (intro w hSw; (obtain ⟨x0, x1, x2, x3, x4, x5⟩ := KX.out w hSw; obtain ⟨y0, y1, y2, y3, y4, y5⟩ := KC.out w hSw; obtain ⟨z0, z1, z2, z3, z4, z5⟩ := KD.out w hSw); go_simp; try (with_reducible rfl))
        go_simp
        refine wpAnyH_take (i := 3) (v := ?vf3) rfl (by kernel_rfl) (by kernel_rfl) (by kernel_rfl) (fun _ _ _ h => h) (Or.inl ⟨by rfl, ?hf3⟩) hSw ?kf3
        case hf3 => (intro w hSw; (obtain ⟨x0, x1, x2, x3, x4, x5⟩ := KX.out w hSw; obtain ⟨y0, y1, y2, y3, y4, y5⟩ := KC.out w hSw; obtain ⟨z0, z1, z2, z3, z4, z5⟩ := KD.out w hSw); go_simp; try (with_reducible rfl))
        go_simp
        refine wpAnyH_take (i := 4) (v := ?vf4) rfl (by kernel_rfl) (by kernel_rfl) (by kernel_rfl) (fun _ _ _ h => h) (Or.inl ⟨by rfl, ?hf4⟩) hSw ?kf4
        case hf4 => (intro w hSw; (obtain ⟨x0, x1, x2, x3, x4, x5⟩ := KX.out w hSw; obtain ⟨y0, y1, y2, y3, y4, y5⟩ := KC.out w hSw; obtain ⟨z0, z1, z2, z3, z4, z5⟩ := KD.out w hSw); go_simp; try (with_reducible rfl))
        go_simp
        refine wpAnyH_ready (rs := [5]) (by kernel_rfl) (by simp) ?_
        refine AllReadyH.cons rfl (fun K hK => ?_) AllReadyH.nil
        go_simp
        with_reducible refine (HSM.out _ hSw).mono ?_
        rintro e2 wb ⟨rfl, hb2'⟩
        go_simp
        refine hK.out _ _ (hSw.trans (hb2'.mono hSw.size)) (fun hSn => ?_)
        clear hK K hSw
        have hSw := hSn
        clear hSn
        go_simp
        refine wpAnyH_take (i := 6) (v := ?vf6) rfl (by kernel_rfl) (by kernel_rfl) (by kernel_rfl) (fun _ _ _ h => h) (Or.inl ⟨by rfl, ?hf6⟩) hSw ?kf6
        case hf6 => (intro w hSw; (obtain ⟨x0, x1, x2, x3, x4, x5⟩ := KX.out w hSw; obtain ⟨y0, y1, y2, y3, y4, y5⟩ := KC.out w hSw; obtain ⟨z0, z1, z2, z3, z4, z5⟩ := KD.out w hSw); go_simp; try (with_reducible rfl))
        go_simp
        refine wpAnyH_take (i := 7) (v := undef) rfl (by kernel_rfl) (by kernel_rfl) (by kernel_rfl) (fun _ _ _ h => h) (Or.inr ⟨by rfl, rfl⟩) hSw ?_
        go_simp
        refine wpAnyH_take (i := 8) (v := undef) rfl (by kernel_rfl) (by kernel_rfl) (by kernel_rfl) (fun _ _ _ h => h) (Or.inr ⟨by rfl, rfl⟩) hSw ?_
        go_simp
        refine wpAnyH_take (i := 9) (v := undef) rfl (by kernel_rfl) (by kernel_rfl) (by kernel_rfl) (fun _ _ _ h => h) (Or.inr ⟨by rfl, rfl⟩) hSw ?_
        go_simp
        refine wpAnyH_take (i := 10) (v := undef) rfl (by kernel_rfl) (by kernel_rfl) (by kernel_rfl) (fun _ _ _ h => h) (Or.inr ⟨by rfl, rfl⟩) hSw ?_
        go_simp
        refine wpAnyH_take (i := 11) (v := undef) rfl (by kernel_rfl) (by kernel_rfl) (by kernel_rfl) (fun _ _ _ h => h) (Or.inr ⟨by rfl, rfl⟩) hSw ?_
        go_simp
        refine wpAnyH_take (i := 12) (v := undef) rfl (by kernel_rfl) (by kernel_rfl) (by kernel_rfl) (fun _ _ _ h => h) (Or.inr ⟨by rfl, rfl⟩) hSw ?_
        go_simp
        refine wpAnyH_take (i := 13) (v := undef) rfl (by kernel_rfl) (by kernel_rfl) (by kernel_rfl) (fun _ _ _ h => h) (Or.inr ⟨by rfl, rfl⟩) hSw ?_
        go_simp
        refine wpAnyH_take (i := 14) (v := undef) rfl (by kernel_rfl) (by kernel_rfl) (by kernel_rfl) (fun _ _ _ h => h) (Or.inr ⟨by rfl, rfl⟩) hSw ?_
        go_simp
        refine wpAnyH_take (i := 15) (v := undef) rfl (by kernel_rfl) (by kernel_rfl) (by kernel_rfl) (fun _ _ _ h => h) (Or.inr ⟨by rfl, rfl⟩) hSw ?_
        go_simp
        refine wpAnyH_take (i := 16) (v := undef) rfl (by kernel_rfl) (by kernel_rfl) (by kernel_rfl) (fun _ _ _ h => h) (Or.inr ⟨by rfl, rfl⟩) hSw ?_
        go_simp
        refine wpAnyH_take (i := 17) (v := undef) rfl (by kernel_rfl) (by kernel_rfl) (by kernel_rfl) (fun _ _ _ h => h) (Or.inr ⟨by rfl, rfl⟩) hSw ?_
        go_simp
        refine wpAnyH_take (i := 18) (v := undef) rfl (by kernel_rfl) (by kernel_rfl) (by kernel_rfl) (fun _ _ _ h => h) (Or.inr ⟨by rfl, rfl⟩) hSw ?_
        go_simp
        refine wpAnyH_take (i := 19) (v := undef) rfl (by kernel_rfl) (by kernel_rfl) (by kernel_rfl) (fun _ _ _ h => h) (Or.inr ⟨by rfl, rfl⟩) hSw ?_
        go_simp
        refine wpAnyH_take (i := 20) (v := undef) rfl (by kernel_rfl) (by kernel_rfl) (by kernel_rfl) (fun _ _ _ h => h) (Or.inr ⟨by rfl, rfl⟩) hSw ?_
        go_simp
        refine wpAnyH_take (i := 21) (v := undef) rfl (by kernel_rfl) (by kernel_rfl) (by kernel_rfl) (fun _ _ _ h => h) (Or.inr ⟨by rfl, rfl⟩) hSw ?_
        go_simp
        refine wpAnyH_take (i := 22) (v := undef) rfl (by kernel_rfl) (by kernel_rfl) (by kernel_rfl) (fun _ _ _ h => h) (Or.inr ⟨by rfl, rfl⟩) hSw ?_
        go_simp
        refine wpAnyH_take (i := 23) (v := undef) rfl (by kernel_rfl) (by kernel_rfl) (by kernel_rfl) (fun _ _ _ h => h) (Or.inr ⟨by rfl, rfl⟩) hSw ?_
        go_simp
        refine wpAnyH_take (i := 24) (v := undef) rfl (by kernel_rfl) (by kernel_rfl) (by kernel_rfl) (fun _ _ _ h => h) (Or.inr ⟨by rfl, rfl⟩) hSw ?_
        go_simp
        refine wpAnyH_take (i := 25) (v := ?vf25) rfl (by kernel_rfl) (by kernel_rfl) (by kernel_rfl) (fun _ _ _ h => h) (Or.inl ⟨by rfl, ?hf25⟩) hSw ?kf25
        case hf25 => (intro w hSw; (obtain ⟨x0, x1, x2, x3, x4, x5⟩ := KX.out w hSw; obtain ⟨y0, y1, y2, y3, y4, y5⟩ := KC.out w hSw; obtain ⟨z0, z1, z2, z3, z4, z5⟩ := KD.out w hSw); go_simp; try (with_reducible rfl))
        go_simp
        refine wpAnyH_take (i := 26) (v := ?vf26) rfl (by kernel_rfl) (by kernel_rfl) (by kernel_rfl) (fun _ _ _ h => h) (Or.inl ⟨by rfl, ?hf26⟩) hSw ?kf26
        case hf26 => (intro w hSw; (obtain ⟨x0, x1, x2, x3, x4, x5⟩ := KX.out w hSw; obtain ⟨y0, y1, y2, y3, y4, y5⟩ := KC.out w hSw; obtain ⟨z0, z1, z2, z3, z4, z5⟩ := KD.out w hSw); go_simp; try (with_reducible rfl))
        go_simp
        refine wpAnyH_ready (rs := [27]) (by kernel_rfl) (by simp) ?_
        refine AllReadyH.cons rfl (fun K hK => ?_) AllReadyH.nil
        go_simp
        with_reducible refine (HAW.out _ hSw).mono ?_
        rintro e5 wf ⟨rfl, hb5'⟩
        go_simp
        refine hK.out _ _ (hSw.trans (hb5'.mono hSw.size)) (fun hSn => ?_)
        clear hK K hSw
        have hSw := hSn
        clear hSn
        go_simp
        refine wpAnyH_take (i := 28) (v := ?vf28) rfl (by kernel_rfl) (by kernel_rfl) (by kernel_rfl) (fun _ _ _ h => h) (Or.inl ⟨by rfl, ?hf28⟩) hSw ?kf28
        case hf28 => (intro w hSw; (obtain ⟨x0, x1, x2, x3, x4, x5⟩ := KX.out w hSw; obtain ⟨y0, y1, y2, y3, y4, y5⟩ := KC.out w hSw; obtain ⟨z0, z1, z2, z3, z4, z5⟩ := KD.out w hSw); go_simp; try (with_reducible rfl))
        go_simp
        refine wpAnyH_take (i := 29) (v := ?vf29) rfl (by kernel_rfl) (by kernel_rfl) (by kernel_rfl) (fun _ _ _ h => h) (Or.inl ⟨by rfl, ?hf29⟩) hSw ?kf29
        case hf29 => (intro w hSw; (obtain ⟨x0, x1, x2, x3, x4, x5⟩ := KX.out w hSw; obtain ⟨y0, y1, y2, y3, y4, y5⟩ := KC.out w hSw; obtain ⟨z0, z1, z2, z3, z4, z5⟩ := KD.out w hSw); go_simp; try (with_reducible rfl))
        go_simp
        refine wpAnyH_done (by kernel_rfl) ?_ _
        have hfin := later_ HBE.out hSw
        clear hSw
        go_wp2
        go_ret
        exact ⟨rfl, hfin⟩
end Go.Proofs.YthepokgkfaocmaaGreatDoor
