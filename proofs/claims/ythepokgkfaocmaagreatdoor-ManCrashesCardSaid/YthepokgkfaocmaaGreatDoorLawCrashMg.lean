/-
  The walk of ManCrashes.
-/
import Derived.Test.YthepokgkfaocmaaGreatDoorBunAU
import Derived.Test.YthepokgkfaocmaaGreatDoorBunAS
import Derived.Deep.RegionHeld3
import Derived.IntWalk
import Derived.Test.YthepokgkfaocmaaGreatDoorBunAR
namespace Go.Proofs.YthepokgkfaocmaaGreatDoor
open Go Go.RowKit Go.Shelf
set_option maxRecDepth 100000 in
set_option maxHeartbeats 4000000 in
theorem manCrashes_walk (A : Option Addr) (n c : Nat) (xs : List Ev) (at_ rw_ : Int) (kA : Option Addr) (kn kc : Nat) (ks : List Int) (oA : Option Addr) (on oc : Nat) (os : List Int) (w : World) (he : Env w) (hn : n ≤ c) (hcm : c ≤ maxLen) (hx : Eds w.heap.size w A n xs) (hkn : kn ≤ kc) (hkc : kc ≤ maxLen) (hkr : Row w.heap.size w kA kn 1 (icells ks)) (hon : on ≤ oc) (hoc : oc ≤ maxLen) (hor : Row w.heap.size w oA on 1 (icells os)) :
    Calls Tryz.prog 9 #[.slice A n c, .int .i64 at_, .int .i64 rw_, .slice kA kn kc, .slice oA on oc] w fun e w' => e = .returned (.bool true) ∧ Below w.heap.size w w' := by
  have hes := edits_any A n c xs w hn hcm hx
  obtain ⟨S0, hrw, hI0⟩ : ∃ S1, Gw.rewrite (Sd.new 1048576) ⟨[], v1g, 0, false⟩ (Mw.man 1) = (S1, ⟨Mw.man 1, v1g, 1, false⟩, 0) ∧ ∀ (vs : List Vw) (x : Int), vs[0]? = some v1g → CI vs 0 (S1.setStop x) ⟨Mw.man 1, v1g, 1, false⟩ 1 1 [v1g.whole] 0 0 := by
    obtain ⟨S1, h1, _⟩ := CI.start (vs := [v1g]) rfl 0
    refine ⟨S1, h1, fun vs x hv => ?_⟩
    obtain ⟨S2, h2, h3⟩ := CI.start hv x
    rw [h1] at h2
    injection h2 with h2 _
    subst h2
    exact h3
  have HRW := Lib.hid hrw
  have HI0 := Lib.hid hI0
  have hnw := fun X w1 (hdm : Dm w1 X (Sd.new 1048576)) => gnew_any v1g none 0 0 v1g_ok (by omega) (by omega) (by decide) (w := w1) Row.nil_ (by decide) hdm (S0, ⟨Mw.man 1, v1g, 1, false⟩, 0) HRW.out.symm rfl
  simp only [v1g_val] at hnw
  have HNW := Lib.hid hnw
  clear hrw hI0 hnw
  go_enter Tryz.func9, Tryz.ntmps9
  go_wp2_with fail
  refine hes.mono ?_
  rintro e w1 ⟨hb1, he1⟩
  have hdn := dnew_any 1048576 w1
  have hen1 := he.below hb1
  clear hes
  rcases he1 with rfl | ⟨G, g, gc, V, k, vc, gs, vs, rfl, hG, hV, hch, hg45, hggc, hgcm, hkv, hvm⟩
  · go_wp2_with fail
    refine hdn.mono ?_
    rintro e w2 ⟨X, rfl, hdk, hb2, hfo⟩
    have hdm := dm_new (by omega) hen1 hdk hb2 hfo
    have hb02 := later_ hb1 hb2
    have hnw := HNW.out X w2 hdm
    have HFO := Lib.hid (fun g hg => Nat.le_trans hb1.size (hfo g hg) : ∀ g ∈ X.foot, w.heap.size ≤ g)
    clear hdn hdk hfo hb1 hb2 HNW HI0 HRW hdm
    go_wp2_with fail
    refine hnw.mono ?_
    rintro e w3 ⟨P, m, X3, rfl, hbn⟩
    have L := gat_born HFO.out hb02 hbn
    have haw := awake_any w3 L.dm.env
    have hbl := L.bel
    clear hnw HFO hbn hb02
    go_wp2_with fail
    refine haw.mono ?_
    rintro e w4 ⟨rfl, hb4⟩
    have hbz := later_ hbl hb4
    clear haw hbl
    go_wp2
    go_ret
    exact ⟨rfl, hbz⟩
  · go_wp2_with fail
    refine hdn.mono ?_
    rintro e w2 ⟨X, rfl, hdk, hb2, hfo⟩
    have hdm := dm_new (by omega) hen1 hdk hb2 hfo
    have hnw := HNW.out X w2 hdm
    have HFO := Lib.hid hfo
    clear hdn hdk hfo HNW HRW hdm
    go_wp2_with fail
    refine hnw.mono ?_
    rintro e w3 ⟨P, m, X3, rfl, hbn⟩
    have L0 := gat_born HFO.out hb2 hbn
    have hx3 := hbn.e
    obtain ⟨mf, hmf, hmf1⟩ := and_mask at_ 7 (by omega)
    have hmf' : bits .and .i64 at_ 127 = (mf : Int) := hmf
    have I0 := HI0.out (vs.map (·.v)) (mf : Int) hch.one
    have hfl := L0.stop (mf : Int) (by omega)
    rw [hx3] at hfl
    clear hnw HFO hbn HI0 hmf
    generalize X.d = d0 at *
    have hN1 := hen1.base
    by_cases hk50 : 50 < kn
    · have hk50' : (50 : Int) < (kn : Int) := by omega
      have haw := awake_any w3 L0.dm.env
      have hbl := hb1.trans (L0.bel.mono hb1.size)
      clear hfl L0 I0
      go_wp2_with fail
      refine haw.mono ?_
      rintro e w4 ⟨rfl, hb4⟩
      have hbz := later_ hbl hb4
      clear haw hbl
      go_wp2
      go_ret
      exact ⟨rfl, hbz⟩
    have hk50' : ((50 : Int) < (kn : Int)) = False := by simp; omega
    go_wp2_with fail
    refine hfl.mono ?_
    rintro e w4 ⟨rfl, L1⟩
    clear hfl L0
    have hkl : k = g + 1 := by
      have h1 := hch.len
      have h2 := hG.len
      have h3 := hV.len
      simp only [List.length_map] at h1
      omega
    have hvf : ∀ j (hj : j < vs.length), (vs.map (·.v))[j]? = some (vs[j]).v := fun j hj => by simp [hj]
    obtain rfl := hkl
    obtain ⟨aV, _, hVe, _⟩ := hV.at_ (show 0 < g + 1 by omega)
    obtain rfl := hVe
    have HVF := Lib.hid hvf
    have HCH := Lib.hid hch
    have HG := Lib.hid hG
    have HV := Lib.hid hV
    have hgl := hG.len
    have hvl := hV.len
    have HKR := Lib.hid ((hkr.below hb1).up hb1.size)
    have HOR := Lib.hid ((hor.below hb1).up hb1.size)
    clear hvf hch hG hV hb2 hx hkr hor hk50 hk50'
    go_upto_block 0 with (fail)
    go_cut [17] (fun nn wx => ∃ (q : Nat) (S : Sd) (M : Gs) (X : Dw) (P : Sl), q ≤ g ∧ nn = .int .i64 (q : Int) ∧ X.d = d0 ∧ GAt P w1 wx X S m M ∧ Hid (SV S (May (vs.map (·.v)) q) 0))
    case first =>
      go_wp2_with fail
      go_loopw [17, 18] (fun nn i wr => ∃ (q j : Nat) (S : Sd) (M : Gs) (X : Dw) (P : Sl), j ≤ g ∧ q ≤ g ∧ nn = .int .i64 (q : Int) ∧ i = .int .i64 (j : Int) ∧ X.d = d0 ∧ GAt P w1 wr X S m M ∧ ((q = j ∧ ∃ n' G' ts, Hid (CI (vs.map (·.v)) q S M n' G' ts q (5000 * q))) ∨ Hid (S.dead = true ∧ SV S (May (vs.map (·.v)) q) 0))) (fun _ i _ => g - (intOf i).toNat)
      case atStart => exact ⟨0, 0, _, _, X3, P, Nat.zero_le _, Nat.zero_le _, rfl, rfl, hx3, L1, .inl ⟨rfl, 1, 1, [v1g.whole], Lib.hid I0⟩⟩
      case round =>
        obtain ⟨q, j, S, M, X, P, hj, hq, rfl, rfl, hxd, L, hI⟩ := hrel
        clear I0 L1 hx3 hmf'
        have hdd := L.dead
        rw [hxd] at hdd
        obtain ⟨de, hde⟩ : ∃ de, de = S.dead := ⟨_, rfl⟩
        rw [← hde] at hdd
        have HDE := Lib.hid hde
        clear hde
        by_cases hlt : j < g
        · have hj' : (j : Int) < (g : Int) := by omega
          cases de with
          | true =>
            have hsv : SV S (May (vs.map (·.v)) q) 0 := by
              rcases hI with ⟨rfl, n', G', ts, hI⟩ | hI
              · exact hI.out.sv (by omega) (by omega)
              · exact hI.out.2
            have HSV := Lib.hid hsv
            clear hsv hI
            go_wp2_with fail
            refine hdd.mono ?_
            rintro e w5 ⟨rfl, rfl⟩
            clear hdd
            go_wp2_with fail
            go_meet
            exact ⟨q, S, M, X, P, hq, rfl, hxd, L, HSV⟩
          | false =>
            obtain ⟨hqj, n', G', ts, hCI⟩ : q = j ∧ ∃ n' G' ts, Hid (CI (vs.map (·.v)) q S M n' G' ts q (5000 * q)) := by
              rcases hI with hI | hI
              · exact hI
              · have h1 := HDE.out
                rw [hI.out.1] at h1
                cases h1
            clear hI
            obtain rfl := hqj
            go_wp2_with fail
            refine hdd.mono ?_
            rintro e w5 ⟨rfl, rfl⟩
            clear hdd
            obtain ⟨a, hl, rfl, hab, hat, hok⟩ := (HG.out.below L.bel).at_ hlt
            have hlm : q < (gs.map (·.e)).length := by simpa using hl
            have hsm := hok.small (by have := (HCH.out.step q hlm).1; simpa using this)
            have hsv := hCI.out.save HCH.out hlm (by omega) (by omega) (by omega)
            rw [List.getElem_map] at hsv
            have hnm := hCI.out.ms.nm
            have hct := hCI.out.ms.count
            have hfw := hCI.out.few
            have hs := L.save hN1 hCI.out.ms.ok (by omega) (by rw [hnm]; have := man_len n'; omega) gs[q] (hok.up L.bel.size) (by omega) (by omega)
            obtain ⟨j, hj2⟩ : ∃ j : Nat, (q : Int) + 1 = (j : Int) := ⟨q + 1, by omega⟩
            have HJQ : Hid (j = q + 1) := Lib.hid (by omega)
            have hj1 : j ≤ g := by omega
            obtain ⟨mq, hmq, hmq1⟩ := and_mask (q : Int) 5 (by omega)
            have hmq' : bits .and .i64 (q : Int) 31 = (mq : Int) := hmq
            obtain ⟨mb, hmb, hmb1⟩ := and_mask (rw_ / 2 ^ mq) 1 (by omega)
            have hmb' : bits .and .i64 (rw_ / 2 ^ mq) 1 = (mb : Int) := hmb
            have hmb2 : mb = 0 ∨ mb = 1 := by omega
            rw [hxd] at hs
            generalize gs[q] = x at *
            obtain ⟨c0, c1, c2, c3, c4, c5, c6⟩ := hat
            clear hok hnm hct hmq hmb hmb1 hCI
            rcases hsv with ⟨S1, M1, ts1, hsv, hbr1, hok1, hI1⟩ | ⟨S1, hsv, hbr1, hd1, hI1⟩ | ⟨S1, M1, hsv, hbr1, hok1, hd1, hld1, hf1, hS1⟩
            · rw [hsv] at hs
              unfold Ed.val at hs
              have HS := Lib.hid hs
              have HI1 := Lib.hid hI1
              have HBR := Lib.hid hbr1
              clear hs hsv hI1 hbr1
              go_wp2_with fail
              refine HS.out.mono ?_
              rintro e w6 ⟨rfl, P1, X1, hx1, L1⟩
              have L1 : GAt P1 w1 w6 X1 S1 m M1 := L1
              clear HS c0 c1 c2 c3 c4 c5 c6 L
              rcases hmb2 with rfl | rfl
              · go_wp2_with fail
                go_roundw
                case rel => exact ⟨j, j, S1, M1, X1, P1, hj1, hj1, rfl, rfl, hx1, L1, .inl ⟨rfl, _, _, _, Lib.hid (by rw [HJQ.out]; exact HI1.out.mono (by omega) (by omega))⟩⟩
                case measure => simp [intOf]; omega
              · have hld := HI1.out.load
                have hrw := L1.rewrite hN1 hok1 (by omega)
                rw [hx1] at hrw
                rcases HI1.out.rewrite L1.dm.wf (by omega) (by omega) with ⟨S2, M2, n2, G2, ts2, er, hr2, hbr2, hI2⟩ | ⟨S2, M2, hr2, hd2, hld2, hS2⟩
                · rw [hr2] at hrw
                  have HRW := Lib.hid hrw
                  have HI2 := Lib.hid hI2
                  clear hrw hr2 hI2 hbr2
                  go_wp2_with fail
                  refine HRW.out.mono ?_
                  rintro e w7 ⟨rfl, P2, X2, hx2, L2⟩
                  have L2 : GAt P2 w1 w7 X2 S2 m M2 := L2
                  clear HRW L1
                  go_wp2_with fail
                  go_roundw
                  case rel => exact ⟨j, j, S2, M2, X2, P2, hj1, hj1, rfl, rfl, hx2, L2, .inl ⟨rfl, _, _, _, Lib.hid (by rw [HJQ.out]; exact HI2.out.mono (by omega) (by omega))⟩⟩
                  case measure => simp [intOf]; omega
                · rw [hr2] at hrw
                  have HRW := Lib.hid hrw
                  have HS2 := Lib.hid (And.intro hd2 hS2)
                  clear hrw hr2 hd2 hS2
                  go_wp2_with fail
                  refine HRW.out.mono ?_
                  rintro e w7 ⟨rfl, P2, X2, hx2, L2⟩
                  have L2 : GAt P2 w1 w7 X2 S2 m M2 := L2
                  clear HRW L1
                  go_wp2_with fail
                  go_roundw
                  case rel => exact ⟨j, j, S2, M2, X2, P2, hj1, hj1, rfl, rfl, hx2, L2, .inr (Lib.hid (by rw [HJQ.out]; exact HS2.out))⟩
                  case measure => simp [intOf]; omega
            · rw [hsv] at hs
              unfold Ed.val at hs
              have HS := Lib.hid hs
              have HI1 := Lib.hid hI1
              have HD1 := Lib.hid hd1
              clear hs hsv hI1 hbr1 hd1
              go_wp2_with fail
              refine HS.out.mono ?_
              rintro e w6 ⟨rfl, P1, X1, hx1, L1⟩
              have L1 : GAt P1 w1 w6 X1 S1 m M := L1
              clear HS c0 c1 c2 c3 c4 c5 c6 L
              rcases hmb2 with rfl | rfl
              · go_wp2_with fail
                go_roundw
                case rel => exact ⟨q, j, S1, M, X1, P1, hj1, hq, rfl, rfl, hx1, L1, .inr (Lib.hid ⟨HD1.out, HI1.out.sv (by omega) (by omega)⟩)⟩
                case measure => simp [intOf]; omega
              · have hld := HI1.out.load
                have hrw := L1.rewrite hN1 HI1.out.ms.ok (by omega)
                rw [hx1] at hrw
                obtain ⟨S2, hr2, hd2, hld2, hS2⟩ := HI1.out.dead_rewrite HD1.out L1.dm.wf (by omega) (by omega)
                rw [hr2] at hrw
                have HRW := Lib.hid hrw
                have HS2 := Lib.hid (And.intro hd2 hS2)
                clear hrw hr2 hd2 hS2
                go_wp2_with fail
                refine HRW.out.mono ?_
                rintro e w7 ⟨rfl, P2, X2, hx2, L2⟩
                have L2 : GAt P2 w1 w7 X2 S2 m M := L2
                clear HRW L1
                go_wp2_with fail
                go_roundw
                case rel => exact ⟨q, j, S2, M, X2, P2, hj1, hq, rfl, rfl, hx2, L2, .inr HS2⟩
                case measure => simp [intOf]; omega
            · rw [hsv] at hs
              unfold Ed.val at hs
              have HS := Lib.hid hs
              have HS1 := Lib.hid (And.intro hd1 hS1)
              have HBR := Lib.hid hbr1
              clear hs hsv hd1 hS1 hbr1
              go_wp2_with fail
              refine HS.out.mono ?_
              rintro e w6 ⟨rfl, P1, X1, hx1, L1⟩
              have L1 : GAt P1 w1 w6 X1 S1 m M1 := L1
              clear HS c0 c1 c2 c3 c4 c5 c6 L
              rcases hmb2 with rfl | rfl
              · go_wp2_with fail
                go_roundw
                case rel => exact ⟨q, j, S1, M1, X1, P1, hj1, hq, rfl, rfl, hx1, L1, .inr HS1⟩
                case measure => simp [intOf]; omega
              · have hrw := L1.rewrite hN1 hok1 (by omega)
                have hr2 : Gw.rewriteM S1 M1 = (S1, M1, 14) := by unfold Gw.rewriteM; rw [if_pos HBR.out]
                rw [hx1, hr2] at hrw
                have HRW := Lib.hid hrw
                clear hrw hr2
                go_wp2_with fail
                refine HRW.out.mono ?_
                rintro e w7 ⟨rfl, P2, X2, hx2, L2⟩
                have L2 : GAt P2 w1 w7 X2 S1 m M1 := L2
                clear HRW L1
                go_wp2_with fail
                go_roundw
                case rel => exact ⟨q, j, S1, M1, X2, P2, hj1, hq, rfl, rfl, hx2, L2, .inr HS1⟩
                case measure => simp [intOf]; omega
        · have hsv : SV S (May (vs.map (·.v)) q) 0 := by
            rcases hI with ⟨rfl, n', G', ts, hI⟩ | hI
            · exact hI.out.sv (by omega) (by omega)
            · exact hI.out.2
          have HSV := Lib.hid hsv
          have hj' : ((j : Int) < (g : Int)) = False := by simp; omega
          clear hsv hI hdd
          go_wp2_with fail
          go_meet
          exact ⟨q, S, M, X, P, hq, rfl, hxd, L, HSV⟩
    case rest =>
      obtain ⟨q, S, M, X, P, hq, rfl, hxd, L, hSV⟩ := hcut
      clear I0 L1 hx3 hmf'
      have hcr := L.crash hSV.out.in_ (by have := hSV.out.most; omega) (by have := hSV.out.load; omega) HKR.out hkn hkc
      rw [hxd] at hcr
      obtain ⟨v, hmay, hDV⟩ := hSV.out.crash L.dm.wf ks
      have HDV0 := Lib.hid (And.intro hDV (Sd.crash_hale S ks))
      have HMAY := Lib.hid hmay
      have HCR := Lib.hid hcr
      clear hcr hmay hDV
      go_wp2_with fail
      refine HCR.out.mono ?_
      rintro e w4 ⟨rfl, X4, hx4, L4⟩
      have hx4' := hx4
      clear hx4 hxd L HCR
      go_wp2_with fail
      go_loopw [19] (fun i wr => ∃ (j : Nat) (S : Sd) (M : Gs) (X : Dw) (P : Sl) (m : Nat), j ≤ on ∧ j ≤ 5 ∧ i = .int .i64 (j : Int) ∧ X.d = d0 ∧ GAt P w1 wr X S m M ∧ Hid (DV S v j ∧ S.ct.hale)) (fun i _ => on - (intOf i).toNat)
      case atStart => exact ⟨0, S.crash ks, M, X4, P, m, Nat.zero_le _, by omega, rfl, hx4', L4, HDV0⟩
      case round =>
        obtain ⟨j, S, M, X, P, m, hjo, hj5, rfl, hxd, L, hDV⟩ := hrel
        clear L4 hx4' HDV0
        by_cases hlt : j < on ∧ j < 5
        · obtain ⟨hlt, hlt5⟩ := hlt
          have e5 : (j : Int) < 5 := by omega
          have ejo : (j : Int) < (on : Int) := by omega
          obtain ⟨a, hl, rfl, hab, hcell⟩ := (HOR.out.below L.bel).int_ hlt
          generalize os[j] = o at *
          obtain ⟨mo, hmo, hmo1⟩ := and_mask o 4 (by omega)
          have hmo' : bits .and .i64 o 15 = (mo : Int) := hmo
          have hst := L.stop (mo : Int) (by omega)
          rw [hxd] at hst
          have hDS := hDV.out.1.stop (mo : Int)
          have HST := Lib.hid hst
          have HDS := Lib.hid hDS
          clear hst hDS hmo
          go_wp2_with fail
          refine HST.out.mono ?_
          rintro e w5 ⟨rfl, L5⟩
          have hop := L5.open_ (by have := HDS.out.load; omega)
          have hSV2 := HDS.out.open_ L5.dm.wf (by omega)
          generalize Gw.opens (S.setStop (mo : Int)) = R at *
          obtain ⟨o5, S5, er5⟩ := R
          rw [hxd] at hop
          have HSV2 := Lib.hid hSV2
          have HOP := Lib.hid hop
          clear hop hSV2 HST hcell hmo' L
          cases o5 with
          | none =>
            go_wp2_with fail
            refine HOP.out.mono ?_
            rintro e w6 ⟨rfl, X6, hx6, L6, _, _⟩
            have hx6' := hx6.trans hxd
            have hcr := L6.crash HSV2.out.in_ (by have := HSV2.out.most; omega) (by have := HSV2.out.load; omega) HKR.out hkn hkc
            rw [hx6'] at hcr
            obtain ⟨v2, hv2, hDV2⟩ := HSV2.out.crash L6.dm.wf ks
            have hv2 : v2 = v := hv2
            subst hv2
            have HDV2 := Lib.hid (And.intro hDV2 (Sd.crash_hale S5 ks))
            have HCR := Lib.hid hcr
            clear hcr hDV2 hx6
            go_wp2_with fail
            refine HCR.out.mono ?_
            rintro e w7 ⟨rfl, X7, hx7, L7⟩
            have hx7' := hx7
            clear HCR
            go_wp2
            go_roundw
            case rel => exact ⟨j + 1, _, _, X7, _, _, by omega, by omega, by go_num, hx7', L7, HDV2⟩
            case measure => simp [intOf]; omega
          | some M6 =>
            go_wp2_with fail
            refine HOP.out.mono ?_
            rintro e w6 ⟨P6, m6, X6, rfl, hx6, L6, _, _, _, _, _, _⟩
            have hx6' := hx6.trans hxd
            have hcr := L6.crash HSV2.out.in_ (by have := HSV2.out.most; omega) (by have := HSV2.out.load; omega) HKR.out hkn hkc
            rw [hx6'] at hcr
            obtain ⟨v2, hv2, hDV2⟩ := HSV2.out.crash L6.dm.wf ks
            have hv2 : v2 = v := hv2
            subst hv2
            have HDV2 := Lib.hid (And.intro hDV2 (Sd.crash_hale S5 ks))
            have HCR := Lib.hid hcr
            clear hcr hDV2 hx6
            go_wp2_with fail
            refine HCR.out.mono ?_
            rintro e w7 ⟨rfl, X7, hx7, L7⟩
            have hx7' := hx7
            clear HCR
            go_wp2
            go_roundw
            case rel => exact ⟨j + 1, _, _, X7, _, _, by omega, by omega, by go_num, hx7', L7, HDV2⟩
            case measure => simp [intOf]; omega
        · have hcs : ((j : Int) < (on : Int)) = False ∨ ((j : Int) < (on : Int)) ∧ ((j : Int) < 5) = False := by
            by_cases h1 : j < on
            · exact .inr ⟨by omega, by simp; omega⟩
            · exact .inl (by simp; omega)
          rcases hcs with e1 | ⟨e1, e2⟩
          · obtain ⟨S5, M5, hop5, hv5, _⟩ := hDV.out.1.last hDV.out.2 (by omega)
            have hop := L.open_ (by have := hDV.out.1.load; omega)
            rw [hop5, hxd] at hop
            have HOP5 := Lib.hid hop
            have HV5 := Lib.hid hv5
            clear hop hop5 hv5 hDV
            go_wp2_with fail
            refine HOP5.out.mono ?_
            rintro e w6 ⟨P6, m6, X6, rfl, hx6, L6, _, _, _, _, _, _⟩
            have hvw := L6.view
            unfold Vw.val at hvw
            have HVW := Lib.hid hvw
            clear hvw HOP5 L
            go_wp2_with fail
            refine HVW.out.mono ?_
            rintro e w7 ⟨A7, c7, rfl, hf7, hb7⟩
            have L7 := L6.below hb7
            have hbxB := BoxO.new w7 #[.int .i64 M5.v.log, .slice A7 P6.n c7, .int .u64 (M5.v.floor : Int), .int .u64 (M5.v.cert : Int), .int .u64 (M5.v.at_ : Int), .int .u64 (M5.v.lease : Int)] 31
            have hbB := (Below.refl w7.heap.size w7).alloc (Nat.le_refl _) (.cells #[.int .i64 M5.v.log, .slice A7 P6.n c7, .int .u64 (M5.v.floor : Int), .int .u64 (M5.v.cert : Int), .int .u64 (M5.v.at_ : Int), .int .u64 (M5.v.lease : Int)] 31)
            have L8 := L7.below hbB
            have hf8 := hf7.below hbB
            clear HVW hb7 L6 L7 hf7 hbB
            go_wp2_with fail
            generalize hV5e : w7.alloc (.cells #[.int .i64 M5.v.log, .slice A7 P6.n c7, .int .u64 (M5.v.floor : Int), .int .u64 (M5.v.cert : Int), .int .u64 (M5.v.at_ : Int), .int .u64 (M5.v.lease : Int)] 31) = V5 at *
            obtain ⟨gx, hgx⟩ : ∃ gx, gx = w7.heap.size := ⟨_, rfl⟩
            rw [← hgx] at hbxB
            try rw [← hgx]
            have hn8 := L8.row.nb
            have hsm : ∀ (y : Vc), y.ok w1.heap.size V5 → ∀ w', Below V5.heap.size V5 w' → Calls Tryz.prog 27 #[M5.v.val A7 P6.n c7, y.v.val y.A y.n y.c] w' fun e w'' => e = .returned (.bool (M5.v.same y.v)) ∧ Below w'.heap.size w' w'' := fun y hy w' hb => sameview_any M5.v y.v A7 P6.n c7 y.A y.n y.c w' (by omega) (by have := hy.few; omega) (hf8.below hb).row ((hy.row.below (hb.mono L8.bel.size)).up (Nat.le_trans L8.bel.size hb.size))
            have hkx : ∀ w', Below V5.heap.size V5 w' → w'.cell? ⟨gx, 0, none⟩ = some (.int .i64 M5.v.log) ∧ w'.cell? ⟨gx, 1, none⟩ = some (.slice A7 P6.n c7) ∧ w'.cell? ⟨gx, 2, none⟩ = some (.int .u64 (M5.v.floor : Int)) ∧ w'.cell? ⟨gx, 3, none⟩ = some (.int .u64 (M5.v.cert : Int)) ∧ w'.cell? ⟨gx, 4, none⟩ = some (.int .u64 (M5.v.at_ : Int)) ∧ w'.cell? ⟨gx, 5, none⟩ = some (.int .u64 (M5.v.lease : Int)) := fun w' hb => by
              have hB := hbxB.below hb
              exact ⟨hB.cell 0, hB.cell 1, hB.cell 2, hB.cell 3, hB.cell 4, hB.cell 5⟩
            have hsee : ∀ (j : Nat) (hj : j < vs.length), (vs[j]).ok w1.heap.size V5 ∧ _ := fun j hj => HV.out.seen hj L8.bel L8.bel.size
            have haw : ∀ w', Below V5.heap.size V5 w' → _ := fun w' hb => awake_any w' (L8.dm.env.below hb)
            have HAW := Lib.hid haw
            have HBE := Lib.hid (hb1.trans (L8.bel.mono hb1.size))
            have HKX := Lib.hid hkx
            have HSEE := Lib.hid hsee
            have HSMM := Lib.hid hsm
            clear hkx hsee haw hsm hbxB hV5e hgx L8 hf8
            go_wp2_with fail
            go_loopw [23] (fun i wr => ∃ j : Nat, i = .int .i64 (j : Int) ∧ q ≤ j ∧ j ≤ q + 1 ∧ j ≤ g ∧ Hid (j = q + 1 → (vs.map (·.v))[q + 1]? = some v) ∧ Below V5.heap.size V5 wr) (fun i _ => g + 2 - (intOf i).toNat)
            case atStart => exact ⟨q, rfl, Nat.le_refl _, by omega, hq, Lib.hid (fun h => by omega), Below.refl _ _⟩
            case round =>
              obtain ⟨j, rfl, hj1, hj2, hj3, hjv, hbr⟩ := hrel
              have hjl : j < vs.length := by omega
              have hjg : (j : Int) < (g : Int) + 1 := by omega
              obtain ⟨hyo, hkc⟩ := HSEE.out j hjl
              have hs1 := fun w' (hb : Below wr.heap.size wr w') => HSMM.out _ hyo w' (hbr.trans (hb.mono hbr.size))
              have hkc2 := fun w' (hb : Below wr.heap.size wr w') => hkc w' (hbr.trans (hb.mono hbr.size))
              have hkx2 := fun w' (hb : Below wr.heap.size wr w') => HKX.out w' (hbr.trans (hb.mono hbr.size))
              have hvj := HVF.out j hjl
              cases hsame : M5.v.same (vs[j]).v with
              | true =>
                rw [hsame] at hs1
                unfold Vw.val at hs1
                have HSM := Lib.hid hs1
                have KC := Lib.hid hkc2
                have KX := Lib.hid hkx2
                clear hs1 hkc hkc2 hkx2 hyo hvj hsame
                generalize vs[j] = y at *
                go_wp2_with fail
                refine wp_region_held_drew (S := fun w' => Below wr.heap.size wr w') rfl (below_drew (Below.refl _ _)) (fun hSw => ?_)
                refine wpAnyH_take (i := 0) (v := ?vat0) rfl (by kernel_rfl) (by kernel_rfl) (by kernel_rfl) (fun _ _ _ h => h) (Or.inl ⟨by rfl, ?hat0⟩) hSw ?kat0
                case hat0 => (intro w hSw; (obtain ⟨x0, x1, x2, x3, x4, x5⟩ := KX.out w hSw; obtain ⟨y0, y1, y2, y3, y4, y5⟩ := KC.out w hSw); go_simp; try (with_reducible rfl))
                go_simp
                refine wpAnyH_take (i := 1) (v := ?vat1) rfl (by kernel_rfl) (by kernel_rfl) (by kernel_rfl) (fun _ _ _ h => h) (Or.inl ⟨by rfl, ?hat1⟩) hSw ?kat1
                case hat1 => (intro w hSw; (obtain ⟨x0, x1, x2, x3, x4, x5⟩ := KX.out w hSw; obtain ⟨y0, y1, y2, y3, y4, y5⟩ := KC.out w hSw); go_simp; try (with_reducible rfl))
                go_simp
                refine wpAnyH_take (i := 2) (v := ?vat2) rfl (by kernel_rfl) (by kernel_rfl) (by kernel_rfl) (fun _ _ _ h => h) (Or.inl ⟨by rfl, ?hat2⟩) hSw ?kat2
                case hat2 => (intro w hSw; (obtain ⟨x0, x1, x2, x3, x4, x5⟩ := KX.out w hSw; obtain ⟨y0, y1, y2, y3, y4, y5⟩ := KC.out w hSw); go_simp; try (with_reducible rfl))
                go_simp
                refine wpAnyH_take (i := 3) (v := ?vat3) rfl (by kernel_rfl) (by kernel_rfl) (by kernel_rfl) (fun _ _ _ h => h) (Or.inl ⟨by rfl, ?hat3⟩) hSw ?kat3
                case hat3 => (intro w hSw; (obtain ⟨x0, x1, x2, x3, x4, x5⟩ := KX.out w hSw; obtain ⟨y0, y1, y2, y3, y4, y5⟩ := KC.out w hSw); go_simp; try (with_reducible rfl))
                go_simp
                refine wpAnyH_take (i := 4) (v := ?vat4) rfl (by kernel_rfl) (by kernel_rfl) (by kernel_rfl) (fun _ _ _ h => h) (Or.inl ⟨by rfl, ?hat4⟩) hSw ?kat4
                case hat4 => (intro w hSw; (obtain ⟨x0, x1, x2, x3, x4, x5⟩ := KX.out w hSw; obtain ⟨y0, y1, y2, y3, y4, y5⟩ := KC.out w hSw); go_simp; try (with_reducible rfl))
                go_simp
                refine wpAnyH_ready (rs := [5]) (by kernel_rfl) (by simp) ?_
                refine AllReadyH.cons rfl (fun K hK => ?_) AllReadyH.nil
                go_simp
                with_reducible refine (HSM.out _ hSw).mono ?_
                rintro e2 wb ⟨rfl, hb2'⟩
                go_simp
                refine hK.out _ _ (hSw.trans (hb2'.mono hSw.size)) (fun hSn => ?_)
                clear hK K hSw
                have hSw := hSn
                clear hSn
                go_simp
                refine wpAnyH_done (by kernel_rfl) ?_ _
                have hbv := hbr.trans (hSw.mono hbr.size)
                have haw := HAW.out _ hbv
                clear hSw HSM KC
                have hjq : (j : Int) ≤ (q : Int) + 1 := by omega
                go_wp2_with fail
                refine haw.mono ?_
                rintro e w9 ⟨rfl, hb9⟩
                have hbz := HBE.out.trans ((hbv.trans (hb9.mono hbv.size)).mono HBE.out.size)
                clear haw
                go_wp2
                go_ret
                exact ⟨rfl, hbz⟩
              | false =>
                have hnext : j + 1 ≤ q + 1 ∧ j + 1 ≤ g ∧ (vs.map (·.v))[q + 1]? = some v := by
                  rcases HMAY.out with h1 | h1
                  · rcases Nat.lt_or_ge q j with h2 | h2
                    · exfalso
                      have e : j = q + 1 := by omega
                      have h3 := hjv.out e
                      rw [← e, hvj] at h3
                      rw [Option.some.inj h3, HV5.out, Vw.same_self] at hsame
                      cases hsame
                    · exfalso
                      have e : j = q := by omega
                      rw [← e, hvj] at h1
                      rw [Option.some.inj h1, HV5.out, Vw.same_self] at hsame
                      cases hsame
                  · rcases Nat.lt_or_ge q j with h2 | h2
                    · exfalso
                      have e : j = q + 1 := by omega
                      rw [← e, hvj] at h1
                      rw [Option.some.inj h1, HV5.out, Vw.same_self] at hsame
                      cases hsame
                    · have h4 : q + 1 < (vs.map (·.v)).length := (List.getElem?_eq_some_iff.1 h1).1
                      rw [List.length_map] at h4
                      exact ⟨by omega, by omega, h1⟩
                obtain ⟨n1, n2, n3⟩ := hnext
                have HN3 := Lib.hid n3
                rw [hsame] at hs1
                unfold Vw.val at hs1
                have HSM := Lib.hid hs1
                have KC := Lib.hid hkc2
                have KX := Lib.hid hkx2
                clear hs1 hkc hkc2 hkx2 hyo hvj hsame n3
                generalize vs[j] = y at *
                go_wp2_with fail
                refine wp_region_held_drew (S := fun w' => Below wr.heap.size wr w') rfl (below_drew (Below.refl _ _)) (fun hSw => ?_)
                refine wpAnyH_take (i := 0) (v := ?vau0) rfl (by kernel_rfl) (by kernel_rfl) (by kernel_rfl) (fun _ _ _ h => h) (Or.inl ⟨by rfl, ?hau0⟩) hSw ?kau0
                case hau0 => (intro w hSw; (obtain ⟨x0, x1, x2, x3, x4, x5⟩ := KX.out w hSw; obtain ⟨y0, y1, y2, y3, y4, y5⟩ := KC.out w hSw); go_simp; try (with_reducible rfl))
                go_simp
                refine wpAnyH_take (i := 1) (v := ?vau1) rfl (by kernel_rfl) (by kernel_rfl) (by kernel_rfl) (fun _ _ _ h => h) (Or.inl ⟨by rfl, ?hau1⟩) hSw ?kau1
                case hau1 => (intro w hSw; (obtain ⟨x0, x1, x2, x3, x4, x5⟩ := KX.out w hSw; obtain ⟨y0, y1, y2, y3, y4, y5⟩ := KC.out w hSw); go_simp; try (with_reducible rfl))
                go_simp
                refine wpAnyH_take (i := 2) (v := ?vau2) rfl (by kernel_rfl) (by kernel_rfl) (by kernel_rfl) (fun _ _ _ h => h) (Or.inl ⟨by rfl, ?hau2⟩) hSw ?kau2
                case hau2 => (intro w hSw; (obtain ⟨x0, x1, x2, x3, x4, x5⟩ := KX.out w hSw; obtain ⟨y0, y1, y2, y3, y4, y5⟩ := KC.out w hSw); go_simp; try (with_reducible rfl))
                go_simp
                refine wpAnyH_take (i := 3) (v := ?vau3) rfl (by kernel_rfl) (by kernel_rfl) (by kernel_rfl) (fun _ _ _ h => h) (Or.inl ⟨by rfl, ?hau3⟩) hSw ?kau3
                case hau3 => (intro w hSw; (obtain ⟨x0, x1, x2, x3, x4, x5⟩ := KX.out w hSw; obtain ⟨y0, y1, y2, y3, y4, y5⟩ := KC.out w hSw); go_simp; try (with_reducible rfl))
                go_simp
                refine wpAnyH_take (i := 4) (v := ?vau4) rfl (by kernel_rfl) (by kernel_rfl) (by kernel_rfl) (fun _ _ _ h => h) (Or.inl ⟨by rfl, ?hau4⟩) hSw ?kau4
                case hau4 => (intro w hSw; (obtain ⟨x0, x1, x2, x3, x4, x5⟩ := KX.out w hSw; obtain ⟨y0, y1, y2, y3, y4, y5⟩ := KC.out w hSw); go_simp; try (with_reducible rfl))
                go_simp
                refine wpAnyH_ready (rs := [5]) (by kernel_rfl) (by simp) ?_
                refine AllReadyH.cons rfl (fun K hK => ?_) AllReadyH.nil
                go_simp
                with_reducible refine (HSM.out _ hSw).mono ?_
                rintro e2 wb ⟨rfl, hb2'⟩
                go_simp
                refine hK.out _ _ (hSw.trans (hb2'.mono hSw.size)) (fun hSn => ?_)
                clear hK K hSw
                have hSw := hSn
                clear hSn
                go_simp
                refine wpAnyH_done (by kernel_rfl) ?_ _
                have hbv := hbr.trans (hSw.mono hbr.size)
                clear hSw HSM KC KX
                go_wp2
                go_roundw
                case rel => exact ⟨j + 1, by go_num, by omega, n1, n2, Lib.hid (fun _ => HN3.out), hbv⟩
                case measure => simp [intOf]; omega
          · obtain ⟨S5, M5, hop5, hv5, _⟩ := hDV.out.1.last hDV.out.2 (by omega)
            have hop := L.open_ (by have := hDV.out.1.load; omega)
            rw [hop5, hxd] at hop
            have HOP5 := Lib.hid hop
            have HV5 := Lib.hid hv5
            clear hop hop5 hv5 hDV
            go_wp2_with fail
            refine HOP5.out.mono ?_
            rintro e w6 ⟨P6, m6, X6, rfl, hx6, L6, _, _, _, _, _, _⟩
            have hvw := L6.view
            unfold Vw.val at hvw
            have HVW := Lib.hid hvw
            clear hvw HOP5 L
            go_wp2_with fail
            refine HVW.out.mono ?_
            rintro e w7 ⟨A7, c7, rfl, hf7, hb7⟩
            have L7 := L6.below hb7
            have hbxB := BoxO.new w7 #[.int .i64 M5.v.log, .slice A7 P6.n c7, .int .u64 (M5.v.floor : Int), .int .u64 (M5.v.cert : Int), .int .u64 (M5.v.at_ : Int), .int .u64 (M5.v.lease : Int)] 31
            have hbB := (Below.refl w7.heap.size w7).alloc (Nat.le_refl _) (.cells #[.int .i64 M5.v.log, .slice A7 P6.n c7, .int .u64 (M5.v.floor : Int), .int .u64 (M5.v.cert : Int), .int .u64 (M5.v.at_ : Int), .int .u64 (M5.v.lease : Int)] 31)
            have L8 := L7.below hbB
            have hf8 := hf7.below hbB
            clear HVW hb7 L6 L7 hf7 hbB
            go_wp2_with fail
            generalize hV5e : w7.alloc (.cells #[.int .i64 M5.v.log, .slice A7 P6.n c7, .int .u64 (M5.v.floor : Int), .int .u64 (M5.v.cert : Int), .int .u64 (M5.v.at_ : Int), .int .u64 (M5.v.lease : Int)] 31) = V5 at *
            obtain ⟨gx, hgx⟩ : ∃ gx, gx = w7.heap.size := ⟨_, rfl⟩
            rw [← hgx] at hbxB
            try rw [← hgx]
            have hn8 := L8.row.nb
            have hsm : ∀ (y : Vc), y.ok w1.heap.size V5 → ∀ w', Below V5.heap.size V5 w' → Calls Tryz.prog 27 #[M5.v.val A7 P6.n c7, y.v.val y.A y.n y.c] w' fun e w'' => e = .returned (.bool (M5.v.same y.v)) ∧ Below w'.heap.size w' w'' := fun y hy w' hb => sameview_any M5.v y.v A7 P6.n c7 y.A y.n y.c w' (by omega) (by have := hy.few; omega) (hf8.below hb).row ((hy.row.below (hb.mono L8.bel.size)).up (Nat.le_trans L8.bel.size hb.size))
            have hkx : ∀ w', Below V5.heap.size V5 w' → w'.cell? ⟨gx, 0, none⟩ = some (.int .i64 M5.v.log) ∧ w'.cell? ⟨gx, 1, none⟩ = some (.slice A7 P6.n c7) ∧ w'.cell? ⟨gx, 2, none⟩ = some (.int .u64 (M5.v.floor : Int)) ∧ w'.cell? ⟨gx, 3, none⟩ = some (.int .u64 (M5.v.cert : Int)) ∧ w'.cell? ⟨gx, 4, none⟩ = some (.int .u64 (M5.v.at_ : Int)) ∧ w'.cell? ⟨gx, 5, none⟩ = some (.int .u64 (M5.v.lease : Int)) := fun w' hb => by
              have hB := hbxB.below hb
              exact ⟨hB.cell 0, hB.cell 1, hB.cell 2, hB.cell 3, hB.cell 4, hB.cell 5⟩
            have hsee : ∀ (j : Nat) (hj : j < vs.length), (vs[j]).ok w1.heap.size V5 ∧ _ := fun j hj => HV.out.seen hj L8.bel L8.bel.size
            have haw : ∀ w', Below V5.heap.size V5 w' → _ := fun w' hb => awake_any w' (L8.dm.env.below hb)
            have HAW := Lib.hid haw
            have HBE := Lib.hid (hb1.trans (L8.bel.mono hb1.size))
            have HKX := Lib.hid hkx
            have HSEE := Lib.hid hsee
            have HSMM := Lib.hid hsm
            clear hkx hsee haw hsm hbxB hV5e hgx L8 hf8
            go_wp2_with fail
            go_loopw [23] (fun i wr => ∃ j : Nat, i = .int .i64 (j : Int) ∧ q ≤ j ∧ j ≤ q + 1 ∧ j ≤ g ∧ Hid (j = q + 1 → (vs.map (·.v))[q + 1]? = some v) ∧ Below V5.heap.size V5 wr) (fun i _ => g + 2 - (intOf i).toNat)
            case atStart => exact ⟨q, rfl, Nat.le_refl _, by omega, hq, Lib.hid (fun h => by omega), Below.refl _ _⟩
            case round =>
              obtain ⟨j, rfl, hj1, hj2, hj3, hjv, hbr⟩ := hrel
              have hjl : j < vs.length := by omega
              have hjg : (j : Int) < (g : Int) + 1 := by omega
              obtain ⟨hyo, hkc⟩ := HSEE.out j hjl
              have hs1 := fun w' (hb : Below wr.heap.size wr w') => HSMM.out _ hyo w' (hbr.trans (hb.mono hbr.size))
              have hkc2 := fun w' (hb : Below wr.heap.size wr w') => hkc w' (hbr.trans (hb.mono hbr.size))
              have hkx2 := fun w' (hb : Below wr.heap.size wr w') => HKX.out w' (hbr.trans (hb.mono hbr.size))
              have hvj := HVF.out j hjl
              cases hsame : M5.v.same (vs[j]).v with
              | true =>
                rw [hsame] at hs1
                unfold Vw.val at hs1
                have HSM := Lib.hid hs1
                have KC := Lib.hid hkc2
                have KX := Lib.hid hkx2
                clear hs1 hkc hkc2 hkx2 hyo hvj hsame
                generalize vs[j] = y at *
                go_wp2_with fail
                refine wp_region_held_drew (S := fun w' => Below wr.heap.size wr w') rfl (below_drew (Below.refl _ _)) (fun hSw => ?_)
                refine wpAnyH_take (i := 0) (v := ?vbt0) rfl (by kernel_rfl) (by kernel_rfl) (by kernel_rfl) (fun _ _ _ h => h) (Or.inl ⟨by rfl, ?hbt0⟩) hSw ?kbt0
                case hbt0 => (intro w hSw; (obtain ⟨x0, x1, x2, x3, x4, x5⟩ := KX.out w hSw; obtain ⟨y0, y1, y2, y3, y4, y5⟩ := KC.out w hSw); go_simp; try (with_reducible rfl))
                go_simp
                refine wpAnyH_take (i := 1) (v := ?vbt1) rfl (by kernel_rfl) (by kernel_rfl) (by kernel_rfl) (fun _ _ _ h => h) (Or.inl ⟨by rfl, ?hbt1⟩) hSw ?kbt1
                case hbt1 => (intro w hSw; (obtain ⟨x0, x1, x2, x3, x4, x5⟩ := KX.out w hSw; obtain ⟨y0, y1, y2, y3, y4, y5⟩ := KC.out w hSw); go_simp; try (with_reducible rfl))
                go_simp
                refine wpAnyH_take (i := 2) (v := ?vbt2) rfl (by kernel_rfl) (by kernel_rfl) (by kernel_rfl) (fun _ _ _ h => h) (Or.inl ⟨by rfl, ?hbt2⟩) hSw ?kbt2
                case hbt2 => (intro w hSw; (obtain ⟨x0, x1, x2, x3, x4, x5⟩ := KX.out w hSw; obtain ⟨y0, y1, y2, y3, y4, y5⟩ := KC.out w hSw); go_simp; try (with_reducible rfl))
                go_simp
                refine wpAnyH_take (i := 3) (v := ?vbt3) rfl (by kernel_rfl) (by kernel_rfl) (by kernel_rfl) (fun _ _ _ h => h) (Or.inl ⟨by rfl, ?hbt3⟩) hSw ?kbt3
                case hbt3 => (intro w hSw; (obtain ⟨x0, x1, x2, x3, x4, x5⟩ := KX.out w hSw; obtain ⟨y0, y1, y2, y3, y4, y5⟩ := KC.out w hSw); go_simp; try (with_reducible rfl))
                go_simp
                refine wpAnyH_take (i := 4) (v := ?vbt4) rfl (by kernel_rfl) (by kernel_rfl) (by kernel_rfl) (fun _ _ _ h => h) (Or.inl ⟨by rfl, ?hbt4⟩) hSw ?kbt4
                case hbt4 => (intro w hSw; (obtain ⟨x0, x1, x2, x3, x4, x5⟩ := KX.out w hSw; obtain ⟨y0, y1, y2, y3, y4, y5⟩ := KC.out w hSw); go_simp; try (with_reducible rfl))
                go_simp
                refine wpAnyH_ready (rs := [5]) (by kernel_rfl) (by simp) ?_
                refine AllReadyH.cons rfl (fun K hK => ?_) AllReadyH.nil
                go_simp
                with_reducible refine (HSM.out _ hSw).mono ?_
                rintro e2 wb ⟨rfl, hb2'⟩
                go_simp
                refine hK.out _ _ (hSw.trans (hb2'.mono hSw.size)) (fun hSn => ?_)
                clear hK K hSw
                have hSw := hSn
                clear hSn
                go_simp
                refine wpAnyH_done (by kernel_rfl) ?_ _
                have hbv := hbr.trans (hSw.mono hbr.size)
                have haw := HAW.out _ hbv
                clear hSw HSM KC
                have hjq : (j : Int) ≤ (q : Int) + 1 := by omega
                go_wp2_with fail
                refine haw.mono ?_
                rintro e w9 ⟨rfl, hb9⟩
                have hbz := HBE.out.trans ((hbv.trans (hb9.mono hbv.size)).mono HBE.out.size)
                clear haw
                go_wp2
                go_ret
                exact ⟨rfl, hbz⟩
              | false =>
                have hnext : j + 1 ≤ q + 1 ∧ j + 1 ≤ g ∧ (vs.map (·.v))[q + 1]? = some v := by
                  rcases HMAY.out with h1 | h1
                  · rcases Nat.lt_or_ge q j with h2 | h2
                    · exfalso
                      have e : j = q + 1 := by omega
                      have h3 := hjv.out e
                      rw [← e, hvj] at h3
                      rw [Option.some.inj h3, HV5.out, Vw.same_self] at hsame
                      cases hsame
                    · exfalso
                      have e : j = q := by omega
                      rw [← e, hvj] at h1
                      rw [Option.some.inj h1, HV5.out, Vw.same_self] at hsame
                      cases hsame
                  · rcases Nat.lt_or_ge q j with h2 | h2
                    · exfalso
                      have e : j = q + 1 := by omega
                      rw [← e, hvj] at h1
                      rw [Option.some.inj h1, HV5.out, Vw.same_self] at hsame
                      cases hsame
                    · have h4 : q + 1 < (vs.map (·.v)).length := (List.getElem?_eq_some_iff.1 h1).1
                      rw [List.length_map] at h4
                      exact ⟨by omega, by omega, h1⟩
                obtain ⟨n1, n2, n3⟩ := hnext
                have HN3 := Lib.hid n3
                rw [hsame] at hs1
                unfold Vw.val at hs1
                have HSM := Lib.hid hs1
                have KC := Lib.hid hkc2
                have KX := Lib.hid hkx2
                clear hs1 hkc hkc2 hkx2 hyo hvj hsame n3
                generalize vs[j] = y at *
                go_wp2_with fail
                refine wp_region_held_drew (S := fun w' => Below wr.heap.size wr w') rfl (below_drew (Below.refl _ _)) (fun hSw => ?_)
                refine wpAnyH_take (i := 0) (v := ?vbu0) rfl (by kernel_rfl) (by kernel_rfl) (by kernel_rfl) (fun _ _ _ h => h) (Or.inl ⟨by rfl, ?hbu0⟩) hSw ?kbu0
                case hbu0 => (intro w hSw; (obtain ⟨x0, x1, x2, x3, x4, x5⟩ := KX.out w hSw; obtain ⟨y0, y1, y2, y3, y4, y5⟩ := KC.out w hSw); go_simp; try (with_reducible rfl))
                go_simp
                refine wpAnyH_take (i := 1) (v := ?vbu1) rfl (by kernel_rfl) (by kernel_rfl) (by kernel_rfl) (fun _ _ _ h => h) (Or.inl ⟨by rfl, ?hbu1⟩) hSw ?kbu1
                case hbu1 => (intro w hSw; (obtain ⟨x0, x1, x2, x3, x4, x5⟩ := KX.out w hSw; obtain ⟨y0, y1, y2, y3, y4, y5⟩ := KC.out w hSw); go_simp; try (with_reducible rfl))
                go_simp
                refine wpAnyH_take (i := 2) (v := ?vbu2) rfl (by kernel_rfl) (by kernel_rfl) (by kernel_rfl) (fun _ _ _ h => h) (Or.inl ⟨by rfl, ?hbu2⟩) hSw ?kbu2
                case hbu2 => (intro w hSw; (obtain ⟨x0, x1, x2, x3, x4, x5⟩ := KX.out w hSw; obtain ⟨y0, y1, y2, y3, y4, y5⟩ := KC.out w hSw); go_simp; try (with_reducible rfl))
                go_simp
                refine wpAnyH_take (i := 3) (v := ?vbu3) rfl (by kernel_rfl) (by kernel_rfl) (by kernel_rfl) (fun _ _ _ h => h) (Or.inl ⟨by rfl, ?hbu3⟩) hSw ?kbu3
                case hbu3 => (intro w hSw; (obtain ⟨x0, x1, x2, x3, x4, x5⟩ := KX.out w hSw; obtain ⟨y0, y1, y2, y3, y4, y5⟩ := KC.out w hSw); go_simp; try (with_reducible rfl))
                go_simp
                refine wpAnyH_take (i := 4) (v := ?vbu4) rfl (by kernel_rfl) (by kernel_rfl) (by kernel_rfl) (fun _ _ _ h => h) (Or.inl ⟨by rfl, ?hbu4⟩) hSw ?kbu4
                case hbu4 => (intro w hSw; (obtain ⟨x0, x1, x2, x3, x4, x5⟩ := KX.out w hSw; obtain ⟨y0, y1, y2, y3, y4, y5⟩ := KC.out w hSw); go_simp; try (with_reducible rfl))
                go_simp
                refine wpAnyH_ready (rs := [5]) (by kernel_rfl) (by simp) ?_
                refine AllReadyH.cons rfl (fun K hK => ?_) AllReadyH.nil
                go_simp
                with_reducible refine (HSM.out _ hSw).mono ?_
                rintro e2 wb ⟨rfl, hb2'⟩
                go_simp
                refine hK.out _ _ (hSw.trans (hb2'.mono hSw.size)) (fun hSn => ?_)
                clear hK K hSw
                have hSw := hSn
                clear hSn
                go_simp
                refine wpAnyH_done (by kernel_rfl) ?_ _
                have hbv := hbr.trans (hSw.mono hbr.size)
                clear hSw HSM KC KX
                go_wp2
                go_roundw
                case rel => exact ⟨j + 1, by go_num, by omega, n1, n2, Lib.hid (fun _ => HN3.out), hbv⟩
                case measure => simp [intOf]; omega
end Go.Proofs.YthepokgkfaocmaaGreatDoor
