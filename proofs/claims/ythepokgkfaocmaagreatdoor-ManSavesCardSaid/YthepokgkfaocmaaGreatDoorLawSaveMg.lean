/-
  The walk of ManSaves.
-/
import Derived.Test.YthepokgkfaocmaaGreatDoorBunAU
import Derived.Test.YthepokgkfaocmaaGreatDoorBunAP
import Derived.Test.YthepokgkfaocmaaGreatDoorBunAO
import Derived.Deep.RegionHeld3
import Derived.IntWalk
namespace Go.Proofs.YthepokgkfaocmaaGreatDoor
open Go Go.RowKit Go.Shelf
set_option maxRecDepth 100000 in
set_option maxHeartbeats 16000000 in
theorem manSaves_walk (A : Option Addr) (n c : Nat) (xs : List Ev) (wn : Int) (kA : Option Addr) (kn kc : Nat) (ks : List Int) (w : World) (he : Env w) (hn : n ≤ c) (hcm : c ≤ maxLen) (hx : Eds w.heap.size w A n xs) (hkn : kn ≤ kc) (hkc : kc ≤ maxLen) (hkr : Row w.heap.size w kA kn 1 (icells ks)) :
    Calls Tryz.prog 10 #[.slice A n c, .int .i64 wn, .slice kA kn kc] w fun e w' => e = .returned (.bool true) ∧ Below w.heap.size w w' := by
  obtain ⟨S0, hrw, hI0⟩ := SI.start
  have HRW := Lib.hid hrw
  have HI0 := Lib.hid hI0
  have hnw := fun X w1 (hdm : Dm w1 X (Sd.new 1048576)) => gnew_any v1g none 0 0 v1g_ok (by omega) (by omega) (by decide) (w := w1) Row.nil_ (by decide) hdm (S0, ⟨Mw.man 1, v1g, 1, false⟩, 0) HRW.out.symm rfl
  simp only [v1g_val] at hnw
  have HNW := Lib.hid hnw
  have hdn := dnew_any 1048576 w
  have hN1 := he.base
  have HKR := Lib.hid hkr
  clear hrw hI0 hnw hkr
  go_enter Tryz.func10, Tryz.ntmps10
  go_wp2_with fail
  refine hdn.mono ?_
  rintro e w1 ⟨X, rfl, hdk, hb1, hfo⟩
  have hdm := dm_new (by omega) he hdk hb1 hfo
  have hnw := HNW.out X w1 hdm
  have HFO := Lib.hid hfo
  clear hdn hdk hfo HNW HRW hdm
  go_wp2_with fail
  refine hnw.mono ?_
  rintro e w2' ⟨P, m, X3, rfl, hbn⟩
  have L0 := gat_born HFO.out hb1 hbn
  have hx3 := hbn.e
  have haw := awake_any w2' L0.dm.env
  clear hnw HFO hbn hb1
  generalize X.d = d0 at *
  by_cases hk50 : 50 < kn
  · have hk50' : (50 : Int) < (kn : Int) := by omega
    have hbl := L0.bel
    clear L0 HI0
    go_wp2_with fail
    refine haw.mono ?_
    rintro e w4 ⟨rfl, hb4⟩
    have hbz := later_ hbl hb4
    clear haw hbl
    go_wp2
    go_ret
    exact ⟨rfl, hbz⟩
  have hk50' : ((50 : Int) < (kn : Int)) = False := by simp; omega
  go_wp2_with fail
  refine haw.mono ?_
  rintro e w3 ⟨rfl, hb3⟩
  have L1 := L0.below hb3
  have hbxV := BoxO.new w3 #[.int .i64 1, .slice none 0 0, .int .u64 0, .int .u64 0, .int .u64 0, .int .u64 0] 31
  have hbV := (Below.refl w3.heap.size w3).alloc (Nat.le_refl _) (.cells #[.int .i64 1, .slice none 0 0, .int .u64 0, .int .u64 0, .int .u64 0, .int .u64 0] 31)
  have L2 := L1.below hbV
  have V2 : Vst w3.heap.size (w3.alloc (.cells #[.int .i64 1, .slice none 0 0, .int .u64 0, .int .u64 0, .int .u64 0, .int .u64 0] 31)) X3 m v1g none 0 0 := ⟨hbxV, Row.nil_, by omega, Nat.le_refl _, Nat.zero_le _, fun j hj => by simp [v1g, fcells] at hj, fun hm => by have := L1.dm.dk.lt _ hm; omega, by have := L1.man.lt; omega⟩
  have hbw0 : w.heap.size ≤ w3.heap.size := L1.bel.size
  have hbwV : w3.heap.size < (w3.alloc (.cells #[.int .i64 1, .slice none 0 0, .int .u64 0, .int .u64 0, .int .u64 0, .int .u64 0] 31)).heap.size := by simp
  clear haw L0 L1 hb3 hbV hbxV hk50 hk50'
  go_wp2_with fail
  generalize w3.alloc (.cells #[.int .i64 1, .slice none 0 0, .int .u64 0, .int .u64 0, .int .u64 0, .int .u64 0] 31) = W0 at *
  generalize w3.heap.size = bv at *
  go_loopw [8, 11] (fun mp i wr => ∃ (k : Nat) (S : Sd) (M : Gs) (X : Dw) (P : Sl) (m : Nat) (v : Vw) (Av : Option Addr) (nv cv n' G' : Nat) (ts : List Ed), k ≤ n ∧ k ≤ 45 ∧ mp = .pointer (some ⟨m, 0, none⟩) ∧ i = .int .i64 (k : Int) ∧ X.d = d0 ∧ GAt P w wr X S m M ∧ Vst bv wr X m v Av nv cv ∧ Hid (SI v k k (7000 * k) S M n' G' ts)) (fun _ i _ => n - (intOf i).toNat)
  case atStart => exact ⟨0, S0, _, X3, P, m, v1g, none, 0, 0, 1, 1, [v1g.whole], Nat.zero_le _, by omega, rfl, rfl, hx3, L2, V2, HI0⟩
  case round =>
    obtain ⟨k, S, M, X, P, m, v, Av, nv, cv, n', G', ts, hkn2, hk45, rfl, rfl, hxd, L, V, hI⟩ := hrel
    clear L2 V2 HI0 hx3 hbwV
    by_cases hlt : k < n
    · by_cases hlt45 : k < 45
      · have e45 : (k : Int) < 45 := by omega
        obtain ⟨a, hl, rfl, hab, hat, hok⟩ := (hx.below L.bel).at_ hlt
        generalize xs[k] = x at *
        obtain ⟨c0, c1, c2, c3, c4, c5, c6⟩ := hat
        have hfew := fun W => few_any x.e x.D x.m x.d x.A x.n x.c W
        unfold Ed.val at hfew
        have HF := Lib.hid hfew
        obtain ⟨fw, hfw⟩ : ∃ fw, fw = (decide (x.m ≤ 60) && decide (x.n ≤ 60)) := ⟨_, rfl⟩
        rw [← hfw] at HF
        clear hfew
        go_wp2_with fail
        refine (HF.out _).mono ?_
        rintro e w2 ⟨rfl, hb2⟩
        have L2 := L.below hb2
        have V2 := V.below hb2
        cases fw with
        | false =>
          have hbz := L2.bel
          clear L2 V2 L V hok HF hI hfw
          go_wp2
          go_ret
          exact ⟨rfl, hbz⟩
        | true =>
          have hfw2 := hfw.symm
          clear hfw
          simp only [Bool.and_eq_true, decide_eq_true_eq] at hfw2
          obtain ⟨hm60, hn60⟩ := hfw2
          have hat2 : EvAt w2 a k x := EvAt.below (B := wr.heap.size) ⟨c0, c1, c2, c3, c4, c5, c6⟩ (World.block_lt_of_cell? wr _ c0 |> fun h => by rwa [add_block] at h) hb2
          have hok2 : x.ok w.heap.size w2 := hok.below (hb2.mono L.bel.size)
          have hgb2 : Below w.heap.size w w2 := L2.bel
          have hbw : bv < w2.heap.size := V2.box.lt
          clear L V c0 c1 c2 c3 c4 c5 c6 HF hok hb2
          have hKC : ∀ w' : World, Below w2.heap.size w2 w' → w'.cell? ⟨bv, 0, none⟩ = some (.int .i64 v.log) ∧ w'.cell? ⟨bv, 1, none⟩ = some (.slice Av nv cv) ∧ w'.cell? ⟨bv, 2, none⟩ = some (.int .u64 (v.floor : Int)) ∧ w'.cell? ⟨bv, 3, none⟩ = some (.int .u64 (v.cert : Int)) ∧ w'.cell? ⟨bv, 4, none⟩ = some (.int .u64 (v.at_ : Int)) ∧ w'.cell? ⟨bv, 5, none⟩ = some (.int .u64 (v.lease : Int)) ∧
              w'.cell? (a.add (k * 7)) = some (.slice x.D x.m x.d) ∧ w'.cell? ⟨(a.add (k * 7)).block, (a.add (k * 7)).off + 1, none⟩ = some (.slice x.A x.n x.c) ∧ w'.cell? ⟨(a.add (k * 7)).block, (a.add (k * 7)).off + 2, none⟩ = some (.int .i64 x.e.log) ∧ w'.cell? ⟨(a.add (k * 7)).block, (a.add (k * 7)).off + 3, none⟩ = some (.int .u64 (x.e.floor : Int)) ∧ w'.cell? ⟨(a.add (k * 7)).block, (a.add (k * 7)).off + 4, none⟩ = some (.int .u64 (x.e.cert : Int)) ∧ w'.cell? ⟨(a.add (k * 7)).block, (a.add (k * 7)).off + 5, none⟩ = some (.int .u64 (x.e.at_ : Int)) ∧ w'.cell? ⟨(a.add (k * 7)).block, (a.add (k * 7)).off + 6, none⟩ = some (.int .u64 (x.e.lease : Int)) := fun w' hb => by
            have hB := V2.box.below hb
            have hA := hat2.below (B := w2.heap.size) (World.block_lt_of_cell? w2 _ hat2.c0 |> fun h => by rwa [add_block] at h) hb
            exact ⟨hB.cell 0, hB.cell 1, hB.cell 2, hB.cell 3, hB.cell 4, hB.cell 5, hA.c0, hA.c1, hA.c2, hA.c3, hA.c4, hA.c5, hA.c6⟩
          have KC := Lib.hid hKC
          obtain ⟨okb, hokb⟩ : ∃ b, b = (v.app x.e).isSome := ⟨_, rfl⟩
          obtain ⟨uu, huu⟩ : ∃ u, u = (v.app x.e).getD Vw.none_ := ⟨_, rfl⟩
          have hnvf := V2.few
          have hap : ∀ W, Below w2.heap.size w2 W → Calls Tryz.prog 36 #[.agg #[.int .i64 v.log, .slice Av nv cv, .int .u64 (v.floor : Int), .int .u64 (v.cert : Int), .int .u64 (v.at_ : Int), .int .u64 (v.lease : Int)], .agg #[.slice x.D x.m x.d, .slice x.A x.n x.c, .int .i64 x.e.log, .int .u64 (x.e.floor : Int), .int .u64 (x.e.cert : Int), .int .u64 (x.e.at_ : Int), .int .u64 (x.e.lease : Int)]] W fun r W' => Below W.heap.size W W' ∧ ∃ Au nu cu, r = .returned (.tuple #[.agg #[.int .i64 uu.log, .slice Au nu cu, .int .u64 (uu.floor : Int), .int .u64 (uu.cert : Int), .int .u64 (uu.at_ : Int), .int .u64 (uu.lease : Int)], .bool okb]) ∧ (okb = true → Fresh W.heap.size W' Au nu cu uu.files) := fun W hW => by
            refine (refapply_any v Av nv cv x.e x.D x.m x.d x.A x.n x.c W (by omega) (by omega) (by omega) hok2.nc hok2.cm ((V2.row.below hW).up hW.size) ((hok2.d.below (hW.mono hgb2.size)).up (Nat.le_trans hgb2.size hW.size)) ((hok2.a.below (hW.mono hgb2.size)).up (Nat.le_trans hgb2.size hW.size))).mono ?_
            rintro r W' ⟨hb, hr⟩
            refine ⟨hb, ?_⟩
            cases hva : v.app x.e with
            | none =>
              rw [hva] at hr hokb huu
              subst hokb huu
              exact ⟨none, 0, 0, hr, fun h => by cases h⟩
            | some u =>
              rw [hva] at hr hokb huu
              subst hokb huu
              obtain ⟨A3, N3, c3, hr, hf⟩ := hr
              exact ⟨A3, N3, c3, hr, fun _ => hf⟩
          have HAP := Lib.hid hap
          have HOK := Lib.hid hokb
          have HUU := Lib.hid huu
          obtain ⟨mq, hmq, hmq1⟩ := and_mask (k : Int) 5 (by omega)
          have hmq' : bits .and .i64 (k : Int) 31 = (mq : Int) := hmq
          obtain ⟨mb, hmb, hmb1⟩ := and_mask (wn / 2 ^ mq) 1 (by omega)
          have hmb' : bits .and .i64 (wn / 2 ^ mq) 1 = (mb : Int) := hmb
          have hmb2 : mb = 0 ∨ mb = 1 := by omega
          obtain ⟨mr, hmr, hmr1⟩ := and_mask ((k : Int) + 9) 5 (by omega)
          have hmr' : bits .and .i64 ((k : Int) + 9) 31 = (mr : Int) := hmr
          obtain ⟨mc3, hmc3, hmc31⟩ := and_mask (wn / 2 ^ mr) 2 (by omega)
          have hmc3' : bits .and .i64 (wn / 2 ^ mr) 3 = (mc3 : Int) := hmc3
          clear hap hokb huu hKC hmq hmb hmb1 hmr hmc3
          go_wp2
          refine wp_region_held_drew (S := fun w' => Below w2.heap.size w2 w') rfl (below_drew (Below.refl _ _)) (fun hSw => ?_)
          refine wpAnyH_take (i := 0) (v := ?v0) rfl (by kernel_rfl) (by kernel_rfl) (by kernel_rfl) (fun _ _ _ h => h) (Or.inl ⟨by rfl, ?h0⟩) hSw ?k0
          case h0 => (intro w hSw; (obtain ⟨y0, y1, y2, y3, y4, y5, c0, c1, c2, c3, c4, c5, c6⟩ := KC.out w hSw); go_simp; try (with_reducible rfl))
          go_simp
          refine wpAnyH_take (i := 1) (v := ?v1) rfl (by kernel_rfl) (by kernel_rfl) (by kernel_rfl) (fun _ _ _ h => h) (Or.inl ⟨by rfl, ?h1⟩) hSw ?k1
          case h1 => (intro w hSw; (obtain ⟨y0, y1, y2, y3, y4, y5, c0, c1, c2, c3, c4, c5, c6⟩ := KC.out w hSw); go_simp; try (with_reducible rfl))
          go_simp
          refine wpAnyH_take (i := 2) (v := ?v2) rfl (by kernel_rfl) (by kernel_rfl) (by kernel_rfl) (fun _ _ _ h => h) (Or.inl ⟨by rfl, ?h2⟩) hSw ?k2
          case h2 => (intro w hSw; (obtain ⟨y0, y1, y2, y3, y4, y5, c0, c1, c2, c3, c4, c5, c6⟩ := KC.out w hSw); go_simp; try (with_reducible rfl))
          go_simp
          refine wpAnyH_take (i := 3) (v := ?v3) rfl (by kernel_rfl) (by kernel_rfl) (by kernel_rfl) (fun _ _ _ h => h) (Or.inl ⟨by rfl, ?h3⟩) hSw ?k3
          case h3 => (intro w hSw; (obtain ⟨y0, y1, y2, y3, y4, y5, c0, c1, c2, c3, c4, c5, c6⟩ := KC.out w hSw); go_simp; try (with_reducible rfl))
          go_simp
          refine wpAnyH_take (i := 4) (v := ?v4) rfl (by kernel_rfl) (by kernel_rfl) (by kernel_rfl) (fun _ _ _ h => h) (Or.inl ⟨by rfl, ?h4⟩) hSw ?k4
          case h4 => (intro w hSw; (obtain ⟨y0, y1, y2, y3, y4, y5, c0, c1, c2, c3, c4, c5, c6⟩ := KC.out w hSw); go_simp; try (with_reducible rfl))
          go_simp
          refine wpAnyH_ready (rs := [5, 9]) (by kernel_rfl) (by simp) ?_
          refine AllReadyH.cons rfl (fun K hK => ?_) (AllReadyH.cons rfl (fun K hK => ?_) AllReadyH.nil)
          case' refine_1 =>
            go_simp
            refine (HAP.out _ hSw).mono ?_
            rintro e5 w5 ⟨hb5, Au, nu, cu, rfl, hfr⟩
            go_simp
            refine hK.out _ _ (hSw.trans (hb5.mono hSw.size)) (fun hSn => ?_)
            clear hK K hSw
            have hSw := hSn
            clear hSn
            go_simp
            refine wpAnyH_take (i := 6) (v := ?va6) rfl (by kernel_rfl) (by kernel_rfl) (by kernel_rfl) (fun _ _ _ h => h) (Or.inl ⟨by rfl, ?ha6⟩) hSw ?ka6
            case ha6 => (intro w hSw; (obtain ⟨y0, y1, y2, y3, y4, y5, c0, c1, c2, c3, c4, c5, c6⟩ := KC.out w hSw); go_simp; try (with_reducible rfl))
            go_simp
            refine wpAnyH_take (i := 7) (v := ?va7) rfl (by kernel_rfl) (by kernel_rfl) (by kernel_rfl) (fun _ _ _ h => h) (Or.inl ⟨by rfl, ?ha7⟩) hSw ?ka7
            case ha7 => (intro w hSw; (obtain ⟨y0, y1, y2, y3, y4, y5, c0, c1, c2, c3, c4, c5, c6⟩ := KC.out w hSw); go_simp; try (with_reducible rfl))
            go_simp
            refine wpAnyH_take (i := 8) (v := ?va8) rfl (by kernel_rfl) (by kernel_rfl) (by kernel_rfl) (fun _ _ _ h => h) (Or.inl ⟨by rfl, ?ha8⟩) hSw ?ka8
            case ha8 => (intro w hSw; (obtain ⟨y0, y1, y2, y3, y4, y5, c0, c1, c2, c3, c4, c5, c6⟩ := KC.out w hSw); go_simp; try (with_reducible rfl))
            go_simp
            have hS5 := Lib.hid hSw
            refine wpAnyH_ready (rs := [9]) (by kernel_rfl) (by simp) ?_
            refine AllReadyH.cons rfl (fun K hK => ?_) AllReadyH.nil
            go_simp
            refine hK.out _ _ (hSw.alloc hSw.size _) (fun hSn => ?_)
            clear hK K hSw
            have hSw := hSn
            clear hSn
            go_simp
            refine wpAnyH_ready (rs := [10]) (by kernel_rfl) (by simp) ?_
            refine AllReadyH.cons rfl (fun K hK => ?_) AllReadyH.nil
            go_simp
            refine hK.out _ _ (hS5.out.alloc hS5.out.size _) (fun hSn => ?_)
            clear hK K hSw
            have hSw := hSn
            clear hSn
            go_simp
            refine wpAnyH_ready (rs := [11]) (by kernel_rfl) (by simp) ?_
            refine AllReadyH.cons rfl (fun K hK => ?_) AllReadyH.nil
            go_simp
            refine hK.out _ _ hSw (fun hSn => ?_)
            clear hK K hSw
            have hSw := hSn
            clear hSn
            go_simp
            refine wpAnyH_done (by kernel_rfl) ?_ _
            have hbv : BoxO _ 31 w5.heap.size [.int .i64 uu.log, .slice Au nu cu, .int .u64 (uu.floor : Int), .int .u64 (uu.cert : Int), .int .u64 (uu.at_ : Int), .int .u64 (uu.lease : Int)] := BoxO.new w5 #[.int .i64 uu.log, .slice Au nu cu, .int .u64 (uu.floor : Int), .int .u64 (uu.cert : Int), .int .u64 (uu.at_ : Int), .int .u64 (uu.lease : Int)] 31
            have hgb : w2.heap.size ≤ w5.heap.size := hS5.out.size
            have hfrW : okb = true → Fresh w2.heap.size (w5.alloc (.cells #[.int .i64 uu.log, .slice Au nu cu, .int .u64 (uu.floor : Int), .int .u64 (uu.cert : Int), .int .u64 (uu.at_ : Int), .int .u64 (uu.lease : Int)] 31)) Au nu cu uu.files := fun ho => ((hfr ho).base (Nat.le_refl _)).below ((Below.refl _ _).alloc (Nat.le_refl _) _)
            generalize w5.heap.size = gb at *
            generalize w5.alloc (.cells #[.int .i64 uu.log, .slice Au nu cu, .int .u64 (uu.floor : Int), .int .u64 (uu.cert : Int), .int .u64 (uu.at_ : Int), .int .u64 (uu.lease : Int)] 31) = W at *
            clear hS5 hb5 hfr w5
          case' refine_2 =>
            go_simp
            refine hK.out _ _ (hSw.alloc hSw.size _) (fun hSn => ?_)
            clear hK K hSw
            have hSw := hSn
            clear hSn
            go_simp
            refine wpAnyH_ready (rs := [5]) (by kernel_rfl) (by simp) ?_
            refine AllReadyH.cons rfl (fun K hK => ?_) AllReadyH.nil
            have hbz : BoxO (w2.drew.alloc (.cells #[.int .i64 0, .slice none 0 0, .int .u64 0, .int .u64 0, .int .u64 0, .int .u64 0] 31)) 31 w2.heap.size [.int .i64 0, .slice none 0 0, .int .u64 0, .int .u64 0, .int .u64 0, .int .u64 0] := BoxO.new w2.drew #[.int .i64 0, .slice none 0 0, .int .u64 0, .int .u64 0, .int .u64 0, .int .u64 0] 31
            go_simp
            refine (HAP.out _ hSw).mono ?_
            rintro e5 w5 ⟨hb5, Au, nu, cu, rfl, hfr⟩
            have hbz5 := hbz.below hb5
            go_simp
            refine hK.out _ _ (hSw.trans (hb5.mono hSw.size)) (fun hSn => ?_)
            clear hK K hSw
            have hSw := hSn
            clear hSn
            go_simp
            refine wpAnyH_take (i := 6) (v := ?vb6) rfl (by kernel_rfl) (by kernel_rfl) (by kernel_rfl) (fun _ _ _ h => h) (Or.inl ⟨by rfl, ?hb6⟩) hSw ?kb6
            case hb6 => (intro w hSw; (obtain ⟨y0, y1, y2, y3, y4, y5, c0, c1, c2, c3, c4, c5, c6⟩ := KC.out w hSw); go_simp; try (with_reducible rfl))
            go_simp
            refine wpAnyH_take (i := 7) (v := ?vb7) rfl (by kernel_rfl) (by kernel_rfl) (by kernel_rfl) (fun _ _ _ h => h) (Or.inl ⟨by rfl, ?hb7⟩) hSw ?kb7
            case hb7 => (intro w hSw; (obtain ⟨y0, y1, y2, y3, y4, y5, c0, c1, c2, c3, c4, c5, c6⟩ := KC.out w hSw); go_simp; try (with_reducible rfl))
            go_simp
            refine wpAnyH_take (i := 8) (v := ?vb8) rfl (by kernel_rfl) (by kernel_rfl) (by kernel_rfl) (fun _ _ _ h => h) (Or.inl ⟨by rfl, ?hb8⟩) hSw ?kb8
            case hb8 => (intro w hSw; (obtain ⟨y0, y1, y2, y3, y4, y5, c0, c1, c2, c3, c4, c5, c6⟩ := KC.out w hSw); go_simp; try (with_reducible rfl))
            go_simp
            have g0 := hbz5.cell 0
            have f0 := hbz5.free 0
            have g1 := hbz5.cell 1
            have f1 := hbz5.free 1
            have g2 := hbz5.cell 2
            have f2 := hbz5.free 2
            have g3 := hbz5.cell 3
            have f3 := hbz5.free 3
            have g4 := hbz5.cell 4
            have f4 := hbz5.free 4
            have g5 := hbz5.cell 5
            have f5 := hbz5.free 5
            simp only [List.getElem?_cons_zero, List.getElem?_cons_succ] at g0 g1 g2 g3 g4 g5
            refine wpAnyH_ready (rs := [10]) (by kernel_rfl) (by simp) ?_
            refine AllReadyH.cons rfl (fun K hK => ?_) AllReadyH.nil
            go_simp
            have hbv := ((((((hbz5.store 0 (.int .i64 uu.log)).store 1 (.slice Au nu cu)).store 2 (.int .u64 (uu.floor : Int))).store 3 (.int .u64 (uu.cert : Int))).store 4 (.int .u64 (uu.at_ : Int))).store 5 (.int .u64 (uu.lease : Int)))
            have hCz := (((((((Chg.refl [w2.heap.size] w5).setCell (p := ⟨w2.heap.size, 0, none⟩) (.int .i64 uu.log) (.inl (by simp))).setCell (p := ⟨w2.heap.size, 1, none⟩) (.slice Au nu cu) (.inl (by simp))).setCell (p := ⟨w2.heap.size, 2, none⟩) (.int .u64 (uu.floor : Int)) (.inl (by simp))).setCell (p := ⟨w2.heap.size, 3, none⟩) (.int .u64 (uu.cert : Int)) (.inl (by simp))).setCell (p := ⟨w2.heap.size, 4, none⟩) (.int .u64 (uu.at_ : Int)) (.inl (by simp))).setCell (p := ⟨w2.heap.size, 5, none⟩) (.int .u64 (uu.lease : Int)) (.inl (by simp)))
            refine hK.out _ _ ((((((hSw.setCell (p := ⟨w2.heap.size, 0, none⟩) (Nat.le_refl _) _).setCell (p := ⟨w2.heap.size, 1, none⟩) (Nat.le_refl _) _).setCell (p := ⟨w2.heap.size, 2, none⟩) (Nat.le_refl _) _).setCell (p := ⟨w2.heap.size, 3, none⟩) (Nat.le_refl _) _).setCell (p := ⟨w2.heap.size, 4, none⟩) (Nat.le_refl _) _).setCell (p := ⟨w2.heap.size, 5, none⟩) (Nat.le_refl _) _) (fun hSn => ?_)
            clear g0 g1 g2 g3 g4 g5 f0 f1 f2 f3 f4 f5
            clear hK K hSw
            have hSw := hSn
            clear hSn
            go_simp
            refine wpAnyH_ready (rs := [11]) (by kernel_rfl) (by simp) ?_
            refine AllReadyH.cons rfl (fun K hK => ?_) AllReadyH.nil
            go_simp
            refine hK.out _ _ hSw (fun hSn => ?_)
            clear hK K hSw
            have hSw := hSn
            clear hSn
            go_simp
            refine wpAnyH_done (by kernel_rfl) ?_ _
            have hbv : BoxO _ 31 w2.heap.size [.int .i64 uu.log, .slice Au nu cu, .int .u64 (uu.floor : Int), .int .u64 (uu.cert : Int), .int .u64 (uu.at_ : Int), .int .u64 (uu.lease : Int)] := hbv
            have hfrW : okb = true → Fresh w2.heap.size ((((((w5.setCell ⟨w2.heap.size, 0, none⟩ (.int .i64 uu.log)).setCell ⟨w2.heap.size, 1, none⟩ (.slice Au nu cu)).setCell ⟨w2.heap.size, 2, none⟩ (.int .u64 (uu.floor : Int))).setCell ⟨w2.heap.size, 3, none⟩ (.int .u64 (uu.cert : Int))).setCell ⟨w2.heap.size, 4, none⟩ (.int .u64 (uu.at_ : Int))).setCell ⟨w2.heap.size, 5, none⟩ (.int .u64 (uu.lease : Int))) Au nu cu uu.files := fun ho => ((hfr ho).chg hCz (fun a ha hm => by have := (hfr ho).low a ha; simp at hm this; omega)).base (by simp)
            obtain ⟨gb, hgb0, hgb⟩ : ∃ g, g = w2.heap.size ∧ w2.heap.size ≤ g := ⟨_, rfl, Nat.le_refl _⟩
            generalize ((((((w5.setCell ⟨w2.heap.size, 0, none⟩ (.int .i64 uu.log)).setCell ⟨w2.heap.size, 1, none⟩ (.slice Au nu cu)).setCell ⟨w2.heap.size, 2, none⟩ (.int .u64 (uu.floor : Int))).setCell ⟨w2.heap.size, 3, none⟩ (.int .u64 (uu.cert : Int))).setCell ⟨w2.heap.size, 4, none⟩ (.int .u64 (uu.at_ : Int))).setCell ⟨w2.heap.size, 5, none⟩ (.int .u64 (uu.lease : Int))) = W at *
            clear hbz5 hbz hb5 hCz hfr w5
            rw [← hgb0] at hbv ⊢
            clear hgb0
          all_goals
            have L3 := L2.below hSw
            have V3 := V2.below hSw
            have hfr3 := hfrW
            obtain ⟨y0, y1, y2, y3, y4, y5, c0, c1, c2, c3, c4, c5, c6⟩ := KC.out W hSw
            have hSwE : Below w2.heap.size w2 W := hSw
            have hok3 : x.ok w.heap.size W := hok2.below (hSwE.mono hgb2.size)
            have hat3 := hat2.below (B := w2.heap.size) (World.block_lt_of_cell? w2 _ hat2.c0 |> fun h => by rwa [add_block] at h) hSwE
            have hmayc := editmay_any x.e x.D x.m x.d x.A x.n x.c W (by omega) (by omega) ((hok2.d.below (hSwE.mono hgb2.size)).up (Nat.le_trans hgb2.size hSwE.size)) ((hok2.a.below (hSwE.mono hgb2.size)).up (Nat.le_trans hgb2.size hSwE.size))
            unfold Ed.val at hmayc
            have HMC := Lib.hid hmayc
            obtain ⟨gd, hgd⟩ : ∃ g, g = (okb && x.e.may) := ⟨_, rfl⟩
            have HGD := Lib.hid hgd
            obtain ⟨my, hmy0⟩ : ∃ my, my = x.e.may := ⟨_, rfl⟩
            have HMY := Lib.hid hmy0
            rw [← hmy0] at HMC
            clear hSw hfrW HAP KC hmayc hgd hmy0 hok2 V2 y0 y1 y2 y3 y4 y5
            go_upto_region 12 with (fail)
            go_cut [14] (fun g wx => g = .bool gd ∧ Below W.heap.size W wx)
            case first =>
              cases okb with
              | false =>
                go_wp2
                go_meet
                exact ⟨by rw [HGD.out]; rfl, Below.refl _ _⟩
              | true =>
                go_wp2_with fail
                refine HMC.out.mono ?_
                rintro e w6 ⟨rfl, hb6⟩
                go_wp2
                go_meet
                exact ⟨by rw [HGD.out, ← HMY.out]; cases my <;> rfl, hb6⟩
            case rest =>
              obtain ⟨rfl, hb6⟩ := hcut
              have L6 := L3.below hb6
              have V6 := V3.below hb6
              have hfr6 : okb = true → Fresh w2.heap.size wc Au nu cu uu.files := fun h => (hfr3 h).below hb6
              have hbv6 := hbv.below hb6
              have hb26 : Below w2.heap.size w2 wc := hSwE.trans (hb6.mono hSwE.size)
              have hok6 : x.ok w.heap.size wc := hok3.below (hb6.mono (Nat.le_trans hgb2.size hSwE.size))
              have hat6 := hat2.below (B := w2.heap.size) (World.block_lt_of_cell? w2 _ hat2.c0 |> fun h => by rwa [add_block] at h) hb26
              clear L3 V3 hfr3 hbv hb6 hSwE hok3 hat3 HMC c0 c1 c2 c3 c4 c5 c6
              obtain ⟨S7, M7, f, v7, ts7, hsv, hfg, hf1, hf2, hI7⟩ : ∃ (S7 : Sd) (M7 : Gs) (f : Nat) (v7 : Vw) (ts7 : List Ed), Gw.save S M x.e = (S7, M7, f) ∧ f = (if gd then 0 else 1) ∧ (gd = true → v7 = uu ∧ okb = true) ∧ (gd = false → v7 = v) ∧ SI v7 (k + 1) k (7000 * k + 2012) S7 M7 n' G' ts7 := by
                have h0 := HOK.out
                have h1 := HUU.out
                have h3 := HGD.out
                cases hh : v.app x.e with
                | none =>
                  rw [hh] at h0
                  have h0' : okb = false := h0
                  rw [h0'] at h3
                  have h3' : gd = false := h3
                  subst h3'
                  exact ⟨S, M, 1, v, ts, hI.out.bad (.inr hh), rfl, (fun h => by cases h), (fun _ => rfl), hI.out.mono (by omega) (Nat.le_refl _) (by omega)⟩
                | some u =>
                  rw [hh] at h0 h1
                  have h0' : okb = true := h0
                  have h1' : uu = u := h1
                  rw [h0'] at h3
                  cases hy : x.e.may with
                  | false =>
                    rw [hy] at h3
                    have h3' : gd = false := h3
                    subst h3'
                    exact ⟨S, M, 1, v, ts, hI.out.bad (.inl hy), rfl, (fun h => by cases h), (fun _ => rfl), hI.out.mono (by omega) (Nat.le_refl _) (by omega)⟩
                  | true =>
                    rw [hy] at h3
                    have h3' : gd = true := h3
                    subst h3'
                    obtain ⟨S7, M7, hsv, hI7⟩ := hI.out.saved hy hh (by omega) (by omega) (by omega)
                    exact ⟨S7, M7, 0, u, _, hsv, rfl, (fun _ => ⟨h1'.symm, h0'⟩), (fun h => by cases h), hI7⟩
              have hs := L6.save2 hN1 hI.out.ms.ok (by have := hI.out.few; rw [hI.out.ms.count]; omega) (by rw [hI.out.ms.nm]; have := man_len n'; omega) x (hok6.up L6.bel.size) (by omega) (by omega)
              rw [hsv] at hs
              unfold Ed.val at hs
              have HS := Lib.hid hs
              have HI7 := Lib.hid hI7
              have HF1 := Lib.hid hf1
              have HF2 := Lib.hid hf2
              have HFG := Lib.hid hfg
              have HFR := Lib.hid hfr6
              clear hs hsv hI7 hf1 hf2 hfg hfr6 HMY
              obtain ⟨c0, c1, c2, c3, c4, c5, c6⟩ := hat6
              go_wp2_with fail
              refine HS.out.mono ?_
              rintro e w7 ⟨rfl, P7, X7, hx7, L7, hc7, hf7⟩
              have L7 : GAt P7 w w7 X7 S7 m M7 := L7
              have V7 := V6.step hc7 hf7 (.inl rfl)
              have hx7' := hx7.trans hxd
              generalize wc = w6 at *
              clear HS c0 c1 c2 c3 c4 c5 c6 hI hx7 hok6
              go_upto_region 14 with (fail)
              go_cut [99] (fun g wx => g = .bool false ∧ wx = w7)
              case first =>
                have h := HFG.out
                cases gd with
                | false =>
                  have h' : f = 1 := h
                  subst h'
                  clear h
                  go_wp2
                  go_meet
                  exact ⟨rfl, rfl⟩
                | true =>
                  have h' : f = 0 := h
                  subst h'
                  clear h
                  go_wp2
                  go_meet
                  exact ⟨rfl, rfl⟩
              case rest =>
                obtain ⟨rfl, hcw⟩ := hcut
                have hcw' := hcw.symm
                clear hcw
                subst hcw'
                go_upto_if 100 with (fail)
                go_cut [] (fun wx => ∃ (A7 : Option Addr) (nv7 cv7 : Nat), Vst bv wx X7 m v7 A7 nv7 cv7 ∧ GAt P7 w wx X7 S7 m M7)
                case first =>
                  cases gd with
                  | false =>
                    have hv7 := HF2.out rfl
                    subst hv7
                    go_wp2
                    go_meet
                    exact ⟨_, _, _, V7, L7⟩
                  | true =>
                    obtain ⟨hv7, hok7⟩ := HF1.out rfl
                    have hv8 := hv7.symm
                    clear hv7
                    subst hv8
                    have hfr6 := HFR.out hok7
                    have hgbl := hbv6.lt
                    have hgX : gb ∉ m :: X.foot := by
                      intro hm
                      have h1 := L2.dm.dk.lt
                      rcases List.mem_cons.1 hm with h3 | h3
                      · have := L2.man.lt; omega
                      · have := h1 _ h3; omega
                    have hbv7 := hbv6.chg hc7 hgX
                    have hAu : ∀ j, j < (fcells uu.files).length → ∀ a, Au = some a → w2.heap.size ≤ a.block ∧ a.block < w6.heap.size := fun j hj a ha => ⟨hfr6.low a ha, row_lt hfr6.row hj ha⟩
                    have hAu2 : ∀ j, j < (fcells uu.files).length → ∀ a, Au = some a → a.block ∉ m :: X.foot := fun j hj a ha hm => by
                      have h0 := (hAu j hj a ha).1
                      have h1 := L2.dm.dk.lt
                      rcases List.mem_cons.1 hm with h3 | h3
                      · have := L2.man.lt; omega
                      · have := h1 _ h3; omega
                    have hrow7 := row_chg hc7 hfr6.row (Nat.le_refl _) hAu2
                    have hb2 := V6.box.lt
                    have hbw2 : bv < w2.heap.size := hbw
                    have y0 := V7.box.cell 0
                    have y1 := V7.box.cell 1
                    have y2 := V7.box.cell 2
                    have y3 := V7.box.cell 3
                    have y4 := V7.box.cell 4
                    have y5 := V7.box.cell 5
                    have z0 := V7.box.free 0
                    have z1 := V7.box.free 1
                    have z2 := V7.box.free 2
                    have z3 := V7.box.free 3
                    have z4 := V7.box.free 4
                    have z5 := V7.box.free 5
                    have b0 := hbv7.cell 0
                    have b1 := hbv7.cell 1
                    have b2 := hbv7.cell 2
                    have b3 := hbv7.cell 3
                    have b4 := hbv7.cell 4
                    have b5 := hbv7.cell 5
                    simp only [viewCells, List.getElem?_cons_zero, List.getElem?_cons_succ] at y0 y1 y2 y3 y4 y5 b0 b1 b2 b3 b4 b5
                    have hus : uu.files.length ≤ 40 := by
                      have h0 := HOK.out
                      have h1 := HUU.out
                      rw [hok7] at h0
                      cases hva : v.app x.e with
                      | none => rw [hva] at h0; cases h0
                      | some u =>
                        rw [hva] at h1
                        have h1' : uu = u := h1
                        rw [h1']
                        exact Vw.app_few hva
                    obtain ⟨V8, L8⟩ := V7.assign L7 hbw0 hN1 uu Au nu cu (hrow7.up hc7.size) (by have := hfr6.row.flen; omega) hfr6.nc hfr6.cm (fun j hj a ha => ⟨fun hm => by have := (hAu j hj a ha).1; omega, fun hm => by
                      have h0 := hAu j hj a ha
                      rcases hf7 _ hm with h1 | h1
                      · exact hAu2 j hj a ha (List.mem_cons_of_mem _ h1)
                      · omega, fun hm => hAu2 j hj a ha (by rw [hm]; simp)⟩)
                    have HV8 := Lib.hid (And.intro V8 L8)
                    clear hbv7 hrow7 hAu hAu2 hgX L7 V7 V8 L8 hc7 hf7 hfr6 HFR HF1 HF2 HFG HI7 HOK HUU HGD
                    go_wp2
                    go_meet
                    exact ⟨_, _, _, HV8.out⟩
                case rest =>
                  obtain ⟨A7, nv7, cv7, V7, L7⟩ := hcut
                  have hld7 := HI7.out.load
                  clear V6 L6 HFR HF1 HF2 HFG hc7 hf7 hbv6 hb26 HOK HUU HGD
                  generalize wc = w7 at *
                  go_upto_region 18 with (fail)
                  go_cut [112] (fun g wx => g = .bool false ∧ ∃ (S8 : Sd) (M8 : Gs) (X8 : Dw) (P8 : Sl) (n8 G8 a8 : Nat) (ts8 : List Ed), X8.d = d0 ∧ GAt P8 w wx X8 S8 m M8 ∧ Vst bv wx X8 m v7 A7 nv7 cv7 ∧ Hid (SI v7 (k + 1) a8 (7000 * k + 4312) S8 M8 n8 G8 ts8 ∧ (a8 = k ∨ a8 = k + 1 ∧ ts8.length ≤ 30)))
                  case first =>
                    rcases hmb2 with rfl | rfl
                    · go_wp2
                      go_meet
                      exact ⟨rfl, S7, M7, X7, P7, n', G', k, ts7, hx7', L7, V7, Lib.hid ⟨HI7.out.mono (Nat.le_refl _) (Nat.le_refl _) (by omega), .inl rfl⟩⟩
                    · obtain ⟨S8, M8, n8, G8, hr8, hI8⟩ := HI7.out.rewrite L7.dm.wf (by omega) (by omega)
                      have hrw := L7.rewrite2 hN1 HI7.out.ms.ok (by omega)
                      rw [hr8] at hrw
                      have HRW := Lib.hid hrw
                      have HI8 := Lib.hid hI8
                      clear hrw hr8 hI8
                      go_wp2_with fail
                      refine HRW.out.mono ?_
                      rintro e w8 ⟨rfl, P8, X8, hx8, L8, hc8, hf8⟩
                      have L8 : GAt P8 w w8 X8 S8 m M8 := L8
                      have V8 := V7.step hc8 hf8 (.inl rfl)
                      go_wp2
                      go_meet
                      exact ⟨rfl, S8, M8, X8, P8, n8, G8, k + 1, _, hx8.trans hx7', L8, V8, Lib.hid ⟨HI8.out.mono (Nat.le_refl _) (Nat.le_refl _) (by omega), .inr ⟨rfl, by simp⟩⟩⟩
                  case rest =>
                    obtain ⟨rfl, S8, M8, X8, P8, n8, G8, a8, ts8, hx8, L8, V8, I8⟩ := hcut
                    clear L7 V7 HI7 hx7' hmb2
                    generalize wc = w8 at *
                    have hld8 := I8.out.1.load
                    have ha8 : a8 ≤ k + 1 := by rcases I8.out.2 with h | h <;> omega
                    go_upto_if 119 with (fail)
                    go_cut [8] (fun mp wx => ∃ (S9 : Sd) (M9 : Gs) (X9 : Dw) (P9 : Sl) (n9 G9 : Nat) (ts9 : List Ed) (m9 : Nat), mp = .pointer (some ⟨m9, 0, none⟩) ∧ X9.d = d0 ∧ GAt P9 w wx X9 S9 m9 M9 ∧ Vst bv wx X9 m9 v7 A7 nv7 cv7 ∧ Hid (SI v7 (k + 1) (k + 1) (7000 * (k + 1)) S9 M9 n9 G9 ts9))
                    case first =>
                      by_cases hm3 : mc3 = 3
                      case neg =>
                        have e3 : ((mc3 : Int) == 3) = false := by rw [beq_eq_false_iff_ne]; omega
                        go_wp2
                        go_meet
                        exact ⟨S8, M8, X8, P8, n8, G8, ts8, m, rfl, hx8, L8, V8, Lib.hid (I8.out.1.mono (Nat.le_refl _) ha8 (by omega))⟩
                      case pos =>
                        subst hm3
                        have hcr := L8.crash2 I8.out.1.ms.in_ (by have := I8.out.1.most; omega) (by omega) HKR.out hkn hkc
                        rw [hx8] at hcr
                        have hI9 := I8.out.1.crash L8.dm.wf ks
                        have HCRS := Lib.hid hcr
                        have HI9 := Lib.hid hI9
                        clear hcr hI9
                        go_wp2_with fail
                        refine HCRS.out.mono ?_
                        rintro e w9 ⟨rfl, X9, hx9, L9, hc9, hf9⟩
                        have V9 := V8.step hc9 hf9 (.inl rfl)
                        obtain ⟨S10, M10, n10, G10, ts10, a10, hop10, hI10, ha10, hb10⟩ := HI9.out.open_ L9.dm.wf (by omega) (by omega) (by omega)
                        have hop := L9.open_ (by have := HI9.out.load; omega)
                        rw [hop10, hx9] at hop
                        have HOP := Lib.hid hop
                        have ha11 : a10 ≤ k + 1 := by
                          rcases I8.out.2 with h | ⟨h1, h2⟩
                          · omega
                          · have := hb10 h2; omega
                        have HI10 := Lib.hid (hI10.mono (Nat.le_refl _) ha11 (Nat.le_refl _))
                        clear hop hop10 hI10 HCRS L8 V8 I8 hx8 HI9 hc9 hf9
                        go_wp2_with fail
                        refine HOP.out.mono ?_
                        rintro e V5 ⟨P9', m9, X10, rfl, hx10, L10, hc10, hf10, hnew10, _, _, _⟩
                        have V10 := V9.step (hc10.mono (fun g hg => .inl (List.mem_cons_of_mem _ hg))) hf10 (.inr hnew10)
                        go_wp2
                        go_meet
                        exact ⟨S10, M10, X10, P9', n10, G10, ts10, m9, rfl, hx10.trans hx9, L10, V10, Lib.hid (HI10.out.mono (Nat.le_refl _) (Nat.le_refl _) (by omega))⟩
                    case rest =>
                      obtain ⟨S9, M9, X9, P9, n9, G9, ts9, m9, rfl, hx9, L9, V9, I9⟩ := hcut
                      clear L8 V8 I8 hx8 hld8 ha8
                      generalize wc = V5 at *
                      go_upto_region 26 with (fail)
                      have hMv := I9.out.view
                      have hvw : ∀ w', Below V5.heap.size V5 w' → Calls Tryz.prog 20 #[.pointer (some ⟨m9, 0, none⟩)] w' fun e w'' => ∃ A c, e = .returned (M9.v.val A P9.n c) ∧ Fresh w'.heap.size w'' A P9.n c M9.v.files ∧ Below w'.heap.size w' w'' := fun w' hb => (L9.below hb).view
                      have hsm : ∀ A c B w', Below V5.heap.size V5 w' → Fresh B w' A P9.n c M9.v.files → Calls Tryz.prog 27 #[M9.v.val A P9.n c, v7.val A7 nv7 cv7] w' fun e w'' => e = .returned (.bool (M9.v.same v7)) ∧ Below w'.heap.size w' w'' := fun A c B w' hb hf => sameview_any M9.v v7 A P9.n c A7 nv7 cv7 w' (by have := L9.row.nb; omega) (by have := V9.few; omega) hf.row ((V9.row.below hb).up hb.size)
                      rw [hMv] at hvw hsm
                      rw [Vw.same_self] at hsm
                      have hbk : ∀ w', Below V5.heap.size V5 w' → _ := fun w' hb => gmbroken_any X9.d (L9.below hb).man
                      have hct : ∀ w', Below V5.heap.size V5 w' → _ := fun w' hb => gmcount_any X9.d (L9.below hb).man
                      rw [I9.out.ms.broken] at hbk
                      rw [I9.out.ms.count] at hct
                      have hfw9 := I9.out.few
                      have hkq : ∀ w', Below V5.heap.size V5 w' → w'.cell? ⟨bv, 0, none⟩ = some (.int .i64 v7.log) ∧ w'.cell? ⟨bv, 1, none⟩ = some (.slice A7 nv7 cv7) ∧ w'.cell? ⟨bv, 2, none⟩ = some (.int .u64 (v7.floor : Int)) ∧ w'.cell? ⟨bv, 3, none⟩ = some (.int .u64 (v7.cert : Int)) ∧ w'.cell? ⟨bv, 4, none⟩ = some (.int .u64 (v7.at_ : Int)) ∧ w'.cell? ⟨bv, 5, none⟩ = some (.int .u64 (v7.lease : Int)) := fun w' hb => by
                        have hB := V9.box.below hb
                        exact ⟨hB.cell 0, hB.cell 1, hB.cell 2, hB.cell 3, hB.cell 4, hB.cell 5⟩
                      unfold Vw.val at hvw hsm
                      have hw31 : IntKind.i64.wrap (31 + (k : Int)) = 31 + (k : Int) := IntWalk.i64_in _ (by omega)
                      generalize ts9.length = tl at *
                      have hcl : (31 + (k : Int) < (tl : Int)) = False := by simp; omega
                      have hcl2 : decide (31 + (k : Int) < (tl : Int)) = false := by simp; omega
                      have HVW := Lib.hid hvw
                      have HSM := Lib.hid hsm
                      have HBK := Lib.hid hbk
                      have HCT := Lib.hid hct
                      have KQ := Lib.hid hkq
                      clear hvw hsm hbk hct hkq hMv
                      refine wp_region_held_drew (S := fun w' => Below V5.heap.size V5 w') rfl (below_drew (Below.refl _ _)) (fun hSw => ?_)
                      refine wpAnyH_take (i := 0) (v := ?_) rfl (by kernel_rfl) (by kernel_rfl) (by kernel_rfl) (fun _ _ _ h => h) (Or.inl ⟨by rfl, ?_⟩) hSw ?_
                      rotate_left
                      · (intro w hSw; (obtain ⟨q0, q1, q2, q3, q4, q5⟩ := KQ.out w hSw); go_simp; try (with_reducible rfl))
                      go_simp
                      refine wpAnyH_take (i := 2) (v := ?_) rfl (by kernel_rfl) (by kernel_rfl) (by kernel_rfl) (fun _ _ _ h => h) (Or.inl ⟨by rfl, ?_⟩) hSw ?_
                      rotate_left
                      · (intro w hSw; (obtain ⟨q0, q1, q2, q3, q4, q5⟩ := KQ.out w hSw); go_simp; try (with_reducible rfl))
                      go_simp
                      refine wpAnyH_ready (rs := [1]) (by kernel_rfl) (by simp) ?_
                      refine AllReadyH.cons rfl (fun K hK => ?_) AllReadyH.nil
                      go_simp
                      with_reducible refine (HVW.out _ hSw).mono ?_
                      rintro e1 wa ⟨A1, c1, rfl, hf1, hb1'⟩
                      go_simp
                      refine hK.out _ _ (hSw.trans (hb1'.mono hSw.size)) (fun hSn => ?_)
                      clear hK K hSw
                      have hSw := hSn
                      clear hSn
                      go_simp
                      refine wpAnyH_ready (rs := [3]) (by kernel_rfl) (by simp) ?_
                      refine AllReadyH.cons rfl (fun K hK => ?_) AllReadyH.nil
                      go_simp
                      with_reducible refine (HSM.out _ _ _ _ hSw hf1).mono ?_
                      rintro e2 wb ⟨rfl, hb2'⟩
                      go_simp
                      refine hK.out _ _ (hSw.trans (hb2'.mono hSw.size)) (fun hSn => ?_)
                      clear hK K hSw
                      have hSw := hSn
                      clear hSn
                      go_simp
                      refine wpAnyH_take (i := 4) (v := ?_) rfl (by kernel_rfl) (by kernel_rfl) (by kernel_rfl) (fun _ _ _ h => h) (Or.inl ⟨by rfl, ?_⟩) hSw ?_
                      rotate_left
                      · (intro w hSw; (obtain ⟨q0, q1, q2, q3, q4, q5⟩ := KQ.out w hSw); go_simp; try (with_reducible rfl))
                      go_simp
                      refine wpAnyH_take (i := 5) (v := ?_) rfl (by kernel_rfl) (by kernel_rfl) (by kernel_rfl) (fun _ _ _ h => h) (Or.inl ⟨by rfl, ?_⟩) hSw ?_
                      rotate_left
                      · (intro w hSw; (obtain ⟨q0, q1, q2, q3, q4, q5⟩ := KQ.out w hSw); go_simp; try (with_reducible rfl))
                      go_simp
                      refine wpAnyH_take (i := 6) (v := ?_) rfl (by kernel_rfl) (by kernel_rfl) (by kernel_rfl) (fun _ _ _ h => h) (Or.inl ⟨by rfl, ?_⟩) hSw ?_
                      rotate_left
                      · (intro w hSw; (obtain ⟨q0, q1, q2, q3, q4, q5⟩ := KQ.out w hSw); go_simp; try (with_reducible rfl))
                      go_simp
                      refine wpAnyH_ready (rs := [7]) (by kernel_rfl) (by simp) ?_
                      refine AllReadyH.cons rfl (fun K hK => ?_) AllReadyH.nil
                      go_simp
                      with_reducible refine (HBK.out _ hSw).mono ?_
                      rintro e3 wd ⟨rfl, rfl⟩
                      go_simp
                      refine hK.out _ _ hSw (fun hSn => ?_)
                      clear hK K hSw
                      have hSw := hSn
                      clear hSn
                      go_simp
                      refine wpAnyH_take (i := 8) (v := ?_) rfl (by kernel_rfl) (by kernel_rfl) (by kernel_rfl) (fun _ _ _ h => h) (Or.inl ⟨by rfl, ?_⟩) hSw ?_
                      rotate_left
                      · (intro w hSw; (obtain ⟨q0, q1, q2, q3, q4, q5⟩ := KQ.out w hSw); go_simp; try (with_reducible rfl))
                      go_simp
                      refine wpAnyH_take (i := 9) (v := ?_) rfl (by kernel_rfl) (by kernel_rfl) (by kernel_rfl) (fun _ _ _ h => h) (Or.inl ⟨by rfl, ?_⟩) hSw ?_
                      rotate_left
                      · (intro w hSw; (obtain ⟨q0, q1, q2, q3, q4, q5⟩ := KQ.out w hSw); go_simp; try (with_reducible rfl))
                      go_simp
                      refine wpAnyH_take (i := 10) (v := ?_) rfl (by kernel_rfl) (by kernel_rfl) (by kernel_rfl) (fun _ _ _ h => h) (Or.inl ⟨by rfl, ?_⟩) hSw ?_
                      rotate_left
                      · (intro w hSw; (obtain ⟨q0, q1, q2, q3, q4, q5⟩ := KQ.out w hSw); go_simp; try (with_reducible rfl))
                      go_simp
                      refine wpAnyH_take (i := 12) (v := ?_) rfl (by kernel_rfl) (by kernel_rfl) (by kernel_rfl) (fun _ _ _ h => h) (Or.inl ⟨by rfl, ?_⟩) hSw ?_
                      rotate_left
                      · (intro w hSw; (obtain ⟨q0, q1, q2, q3, q4, q5⟩ := KQ.out w hSw); go_simp; try (with_reducible rfl))
                      go_simp
                      refine wpAnyH_take (i := 13) (v := ?_) rfl (by kernel_rfl) (by kernel_rfl) (by kernel_rfl) (fun _ _ _ h => h) (Or.inl ⟨by rfl, ?_⟩) hSw ?_
                      rotate_left
                      · (intro w hSw; (obtain ⟨q0, q1, q2, q3, q4, q5⟩ := KQ.out w hSw); go_simp; try (with_reducible rfl))
                      go_simp
                      refine wpAnyH_ready (rs := [11]) (by kernel_rfl) (by simp) ?_
                      refine AllReadyH.cons rfl (fun K hK => ?_) AllReadyH.nil
                      go_simp
                      with_reducible refine (HCT.out _ hSw).mono ?_
                      rintro e4 we ⟨rfl, rfl⟩
                      go_simp
                      refine hK.out _ _ hSw (fun hSn => ?_)
                      clear hK K hSw
                      have hSw := hSn
                      clear hSn
                      go_simp
                      refine wpAnyH_take (i := 14) (v := ?_) rfl (by kernel_rfl) (by kernel_rfl) (by kernel_rfl) (fun _ _ _ h => h) (Or.inl ⟨by rfl, ?_⟩) hSw ?_
                      rotate_left
                      · (intro w hSw; (obtain ⟨q0, q1, q2, q3, q4, q5⟩ := KQ.out w hSw); go_simp; try (with_reducible rfl))
                      go_simp
                      refine wpAnyH_take (i := 15) (v := ?_) rfl (by kernel_rfl) (by kernel_rfl) (by kernel_rfl) (fun _ _ _ h => h) (Or.inl ⟨by rfl, ?_⟩) hSw ?_
                      rotate_left
                      · (intro w hSw; (obtain ⟨q0, q1, q2, q3, q4, q5⟩ := KQ.out w hSw); go_simp; try (with_reducible rfl))
                      go_simp
                      refine wpAnyH_done (by kernel_rfl) ?_ _
                      have L10 := L9.below hSw
                      have V10 := V9.below hSw
                      clear hSw KQ HVW HSM HBK HCT hf1 L9 V9 hw31 hcl hcl2
                      go_wp2
                      (try go_big_round)
                      refine ⟨?_, ?_⟩
                      rotate_left 1
                      · simp [intOf]; omega
                      · exact ⟨k + 1, _, _, _, _, _, _, _, _, _, _, _, _, by omega, by omega, rfl, by go_num, hx9, L10, V10, I9⟩
      · have e45 : ((k : Int) < 45) = False := by simp; omega
        obtain ⟨S10, M10, n10, G10, ts10, a10, hop10, hI10, ha10, hb10⟩ := hI.out.open_ L.dm.wf (by omega) (by omega) (by omega)
        have hop := L.open_ (by have := hI.out.load; omega)
        rw [hop10, hxd] at hop
        have HOP := Lib.hid hop
        have hMv := hI10.view
        clear hop hop10 hI10 hI
        go_wp2_with fail
        refine HOP.out.mono ?_
        rintro e V5 ⟨P9, m9, X10, rfl, hx10, L10, hc10, hf10, hnew10, _, _, _⟩
        have V10 := V.step (hc10.mono (fun g hg => .inl (List.mem_cons_of_mem _ hg))) hf10 (.inr hnew10)
        have hvw : ∀ w', Below V5.heap.size V5 w' → Calls Tryz.prog 20 #[.pointer (some ⟨m9, 0, none⟩)] w' fun e w'' => ∃ A c, e = .returned (M10.v.val A P9.n c) ∧ Fresh w'.heap.size w'' A P9.n c M10.v.files ∧ Below w'.heap.size w' w'' := fun w' hb => (L10.below hb).view
        have hsm : ∀ A c B w', Below V5.heap.size V5 w' → Fresh B w' A P9.n c M10.v.files → Calls Tryz.prog 27 #[M10.v.val A P9.n c, v.val Av nv cv] w' fun e w'' => e = .returned (.bool (M10.v.same v)) ∧ Below w'.heap.size w' w'' := fun A c B w' hb hf => sameview_any M10.v v A P9.n c Av nv cv w' (by have := L10.row.nb; omega) (by have := V10.few; omega) (hf.row) ((V10.row.below hb).up hb.size)
        rw [hMv] at hvw hsm
        rw [Vw.same_self] at hsm
        have hkq : ∀ w', Below V5.heap.size V5 w' → w'.cell? ⟨bv, 0, none⟩ = some (.int .i64 v.log) ∧ w'.cell? ⟨bv, 1, none⟩ = some (.slice Av nv cv) ∧ w'.cell? ⟨bv, 2, none⟩ = some (.int .u64 (v.floor : Int)) ∧ w'.cell? ⟨bv, 3, none⟩ = some (.int .u64 (v.cert : Int)) ∧ w'.cell? ⟨bv, 4, none⟩ = some (.int .u64 (v.at_ : Int)) ∧ w'.cell? ⟨bv, 5, none⟩ = some (.int .u64 (v.lease : Int)) := fun w' hb => by
          have hB := V10.box.below hb
          exact ⟨hB.cell 0, hB.cell 1, hB.cell 2, hB.cell 3, hB.cell 4, hB.cell 5⟩
        unfold Vw.val at hvw hsm
        have HVW := Lib.hid hvw
        have HSM := Lib.hid hsm
        have KQ := Lib.hid hkq
        clear hvw hsm hkq hMv HOP L V V10
        go_wp2_with fail
        refine wp_region_held_drew (S := fun w' => Below V5.heap.size V5 w') rfl (below_drew (Below.refl _ _)) (fun hSw => ?_)
        refine wpAnyH_take (i := 0) (v := ?vya0) rfl (by kernel_rfl) (by kernel_rfl) (by kernel_rfl) (fun _ _ _ h => h) (Or.inl ⟨by rfl, ?hya0⟩) hSw ?kya0
        case hya0 => (intro w hSw; (obtain ⟨q0, q1, q2, q3, q4, q5⟩ := KQ.out w hSw); go_simp; try (with_reducible rfl))
        go_simp
        refine wpAnyH_take (i := 1) (v := ?vya1) rfl (by kernel_rfl) (by kernel_rfl) (by kernel_rfl) (fun _ _ _ h => h) (Or.inl ⟨by rfl, ?hya1⟩) hSw ?kya1
        case hya1 => (intro w hSw; (obtain ⟨q0, q1, q2, q3, q4, q5⟩ := KQ.out w hSw); go_simp; try (with_reducible rfl))
        go_simp
        refine wpAnyH_take (i := 2) (v := ?vya2) rfl (by kernel_rfl) (by kernel_rfl) (by kernel_rfl) (fun _ _ _ h => h) (Or.inl ⟨by rfl, ?hya2⟩) hSw ?kya2
        case hya2 => (intro w hSw; (obtain ⟨q0, q1, q2, q3, q4, q5⟩ := KQ.out w hSw); go_simp; try (with_reducible rfl))
        go_simp
        refine wpAnyH_take (i := 3) (v := ?vya3) rfl (by kernel_rfl) (by kernel_rfl) (by kernel_rfl) (fun _ _ _ h => h) (Or.inl ⟨by rfl, ?hya3⟩) hSw ?kya3
        case hya3 => (intro w hSw; (obtain ⟨q0, q1, q2, q3, q4, q5⟩ := KQ.out w hSw); go_simp; try (with_reducible rfl))
        go_simp
        refine wpAnyH_take (i := 4) (v := ?vya4) rfl (by kernel_rfl) (by kernel_rfl) (by kernel_rfl) (fun _ _ _ h => h) (Or.inl ⟨by rfl, ?hya4⟩) hSw ?kya4
        case hya4 => (intro w hSw; (obtain ⟨q0, q1, q2, q3, q4, q5⟩ := KQ.out w hSw); go_simp; try (with_reducible rfl))
        go_simp
        refine wpAnyH_take (i := 5) (v := ?vya5) rfl (by kernel_rfl) (by kernel_rfl) (by kernel_rfl) (fun _ _ _ h => h) (Or.inl ⟨by rfl, ?hya5⟩) hSw ?kya5
        case hya5 => (intro w hSw; (obtain ⟨q0, q1, q2, q3, q4, q5⟩ := KQ.out w hSw); go_simp; try (with_reducible rfl))
        go_simp
        refine wpAnyH_take (i := 6) (v := ?vya6) rfl (by kernel_rfl) (by kernel_rfl) (by kernel_rfl) (fun _ _ _ h => h) (Or.inl ⟨by rfl, ?hya6⟩) hSw ?kya6
        case hya6 => (intro w hSw; (obtain ⟨q0, q1, q2, q3, q4, q5⟩ := KQ.out w hSw); go_simp; try (with_reducible rfl))
        go_simp
        refine wpAnyH_take (i := 7) (v := ?vya7) rfl (by kernel_rfl) (by kernel_rfl) (by kernel_rfl) (fun _ _ _ h => h) (Or.inl ⟨by rfl, ?hya7⟩) hSw ?kya7
        case hya7 => (intro w hSw; (obtain ⟨q0, q1, q2, q3, q4, q5⟩ := KQ.out w hSw); go_simp; try (with_reducible rfl))
        go_simp
        refine wpAnyH_take (i := 9) (v := ?vya9) rfl (by kernel_rfl) (by kernel_rfl) (by kernel_rfl) (fun _ _ _ h => h) (Or.inl ⟨by rfl, ?hya9⟩) hSw ?kya9
        case hya9 => (intro w hSw; (obtain ⟨q0, q1, q2, q3, q4, q5⟩ := KQ.out w hSw); go_simp; try (with_reducible rfl))
        go_simp
        refine wpAnyH_ready (rs := [8]) (by kernel_rfl) (by simp) ?_
        refine AllReadyH.cons rfl (fun K hK => ?_) AllReadyH.nil
        go_simp
        with_reducible refine (HVW.out _ hSw).mono ?_
        rintro e1 wa ⟨A1, c1, rfl, hf1, hb1'⟩
        go_simp
        refine hK.out _ _ (hSw.trans (hb1'.mono hSw.size)) (fun hSn => ?_)
        clear hK K hSw
        have hSw := hSn
        clear hSn
        go_simp
        refine wpAnyH_ready (rs := [10]) (by kernel_rfl) (by simp) ?_
        refine AllReadyH.cons rfl (fun K hK => ?_) AllReadyH.nil
        go_simp
        with_reducible refine (HSM.out _ _ _ _ hSw hf1).mono ?_
        rintro e2 wb ⟨rfl, hb2'⟩
        go_simp
        refine hK.out _ _ (hSw.trans (hb2'.mono hSw.size)) (fun hSn => ?_)
        clear hK K hSw
        have hSw := hSn
        clear hSn
        go_simp
        refine wpAnyH_take (i := 11) (v := ?vya11) rfl (by kernel_rfl) (by kernel_rfl) (by kernel_rfl) (fun _ _ _ h => h) (Or.inl ⟨by rfl, ?hya11⟩) hSw ?kya11
        case hya11 => (intro w hSw; (obtain ⟨q0, q1, q2, q3, q4, q5⟩ := KQ.out w hSw); go_simp; try (with_reducible rfl))
        go_simp
        refine wpAnyH_take (i := 12) (v := ?vya12) rfl (by kernel_rfl) (by kernel_rfl) (by kernel_rfl) (fun _ _ _ h => h) (Or.inl ⟨by rfl, ?hya12⟩) hSw ?kya12
        case hya12 => (intro w hSw; (obtain ⟨q0, q1, q2, q3, q4, q5⟩ := KQ.out w hSw); go_simp; try (with_reducible rfl))
        go_simp
        refine wpAnyH_done (by kernel_rfl) ?_ _
        have hz := (L10.below hSw).bel
        clear hSw KQ HVW HSM hf1 L10
        go_wp2
        go_ret
        exact ⟨rfl, hz⟩
    · have e1 : ((k : Int) < (n : Int)) = False := by simp; omega
      obtain ⟨S10, M10, n10, G10, ts10, a10, hop10, hI10, ha10, hb10⟩ := hI.out.open_ L.dm.wf (by omega) (by omega) (by omega)
      have hop := L.open_ (by have := hI.out.load; omega)
      rw [hop10, hxd] at hop
      have HOP := Lib.hid hop
      have hMv := hI10.view
      clear hop hop10 hI10 hI
      go_wp2_with fail
      refine HOP.out.mono ?_
      rintro e V5 ⟨P9, m9, X10, rfl, hx10, L10, hc10, hf10, hnew10, _, _, _⟩
      have V10 := V.step (hc10.mono (fun g hg => .inl (List.mem_cons_of_mem _ hg))) hf10 (.inr hnew10)
      have hvw : ∀ w', Below V5.heap.size V5 w' → Calls Tryz.prog 20 #[.pointer (some ⟨m9, 0, none⟩)] w' fun e w'' => ∃ A c, e = .returned (M10.v.val A P9.n c) ∧ Fresh w'.heap.size w'' A P9.n c M10.v.files ∧ Below w'.heap.size w' w'' := fun w' hb => (L10.below hb).view
      have hsm : ∀ A c B w', Below V5.heap.size V5 w' → Fresh B w' A P9.n c M10.v.files → Calls Tryz.prog 27 #[M10.v.val A P9.n c, v.val Av nv cv] w' fun e w'' => e = .returned (.bool (M10.v.same v)) ∧ Below w'.heap.size w' w'' := fun A c B w' hb hf => sameview_any M10.v v A P9.n c Av nv cv w' (by have := L10.row.nb; omega) (by have := V10.few; omega) (hf.row) ((V10.row.below hb).up hb.size)
      rw [hMv] at hvw hsm
      rw [Vw.same_self] at hsm
      have hkq : ∀ w', Below V5.heap.size V5 w' → w'.cell? ⟨bv, 0, none⟩ = some (.int .i64 v.log) ∧ w'.cell? ⟨bv, 1, none⟩ = some (.slice Av nv cv) ∧ w'.cell? ⟨bv, 2, none⟩ = some (.int .u64 (v.floor : Int)) ∧ w'.cell? ⟨bv, 3, none⟩ = some (.int .u64 (v.cert : Int)) ∧ w'.cell? ⟨bv, 4, none⟩ = some (.int .u64 (v.at_ : Int)) ∧ w'.cell? ⟨bv, 5, none⟩ = some (.int .u64 (v.lease : Int)) := fun w' hb => by
        have hB := V10.box.below hb
        exact ⟨hB.cell 0, hB.cell 1, hB.cell 2, hB.cell 3, hB.cell 4, hB.cell 5⟩
      unfold Vw.val at hvw hsm
      have HVW := Lib.hid hvw
      have HSM := Lib.hid hsm
      have KQ := Lib.hid hkq
      clear hvw hsm hkq hMv HOP L V V10
      go_wp2_with fail
      refine wp_region_held_drew (S := fun w' => Below V5.heap.size V5 w') rfl (below_drew (Below.refl _ _)) (fun hSw => ?_)
      refine wpAnyH_take (i := 0) (v := ?vyb0) rfl (by kernel_rfl) (by kernel_rfl) (by kernel_rfl) (fun _ _ _ h => h) (Or.inl ⟨by rfl, ?hyb0⟩) hSw ?kyb0
      case hyb0 => (intro w hSw; (obtain ⟨q0, q1, q2, q3, q4, q5⟩ := KQ.out w hSw); go_simp; try (with_reducible rfl))
      go_simp
      refine wpAnyH_take (i := 1) (v := ?vyb1) rfl (by kernel_rfl) (by kernel_rfl) (by kernel_rfl) (fun _ _ _ h => h) (Or.inl ⟨by rfl, ?hyb1⟩) hSw ?kyb1
      case hyb1 => (intro w hSw; (obtain ⟨q0, q1, q2, q3, q4, q5⟩ := KQ.out w hSw); go_simp; try (with_reducible rfl))
      go_simp
      refine wpAnyH_take (i := 2) (v := ?vyb2) rfl (by kernel_rfl) (by kernel_rfl) (by kernel_rfl) (fun _ _ _ h => h) (Or.inl ⟨by rfl, ?hyb2⟩) hSw ?kyb2
      case hyb2 => (intro w hSw; (obtain ⟨q0, q1, q2, q3, q4, q5⟩ := KQ.out w hSw); go_simp; try (with_reducible rfl))
      go_simp
      refine wpAnyH_take (i := 3) (v := ?vyb3) rfl (by kernel_rfl) (by kernel_rfl) (by kernel_rfl) (fun _ _ _ h => h) (Or.inl ⟨by rfl, ?hyb3⟩) hSw ?kyb3
      case hyb3 => (intro w hSw; (obtain ⟨q0, q1, q2, q3, q4, q5⟩ := KQ.out w hSw); go_simp; try (with_reducible rfl))
      go_simp
      refine wpAnyH_take (i := 4) (v := ?vyb4) rfl (by kernel_rfl) (by kernel_rfl) (by kernel_rfl) (fun _ _ _ h => h) (Or.inl ⟨by rfl, ?hyb4⟩) hSw ?kyb4
      case hyb4 => (intro w hSw; (obtain ⟨q0, q1, q2, q3, q4, q5⟩ := KQ.out w hSw); go_simp; try (with_reducible rfl))
      go_simp
      refine wpAnyH_take (i := 5) (v := ?vyb5) rfl (by kernel_rfl) (by kernel_rfl) (by kernel_rfl) (fun _ _ _ h => h) (Or.inl ⟨by rfl, ?hyb5⟩) hSw ?kyb5
      case hyb5 => (intro w hSw; (obtain ⟨q0, q1, q2, q3, q4, q5⟩ := KQ.out w hSw); go_simp; try (with_reducible rfl))
      go_simp
      refine wpAnyH_take (i := 6) (v := ?vyb6) rfl (by kernel_rfl) (by kernel_rfl) (by kernel_rfl) (fun _ _ _ h => h) (Or.inl ⟨by rfl, ?hyb6⟩) hSw ?kyb6
      case hyb6 => (intro w hSw; (obtain ⟨q0, q1, q2, q3, q4, q5⟩ := KQ.out w hSw); go_simp; try (with_reducible rfl))
      go_simp
      refine wpAnyH_take (i := 7) (v := ?vyb7) rfl (by kernel_rfl) (by kernel_rfl) (by kernel_rfl) (fun _ _ _ h => h) (Or.inl ⟨by rfl, ?hyb7⟩) hSw ?kyb7
      case hyb7 => (intro w hSw; (obtain ⟨q0, q1, q2, q3, q4, q5⟩ := KQ.out w hSw); go_simp; try (with_reducible rfl))
      go_simp
      refine wpAnyH_take (i := 9) (v := ?vyb9) rfl (by kernel_rfl) (by kernel_rfl) (by kernel_rfl) (fun _ _ _ h => h) (Or.inl ⟨by rfl, ?hyb9⟩) hSw ?kyb9
      case hyb9 => (intro w hSw; (obtain ⟨q0, q1, q2, q3, q4, q5⟩ := KQ.out w hSw); go_simp; try (with_reducible rfl))
      go_simp
      refine wpAnyH_ready (rs := [8]) (by kernel_rfl) (by simp) ?_
      refine AllReadyH.cons rfl (fun K hK => ?_) AllReadyH.nil
      go_simp
      with_reducible refine (HVW.out _ hSw).mono ?_
      rintro e1 wa ⟨A1, c1, rfl, hf1, hb1'⟩
      go_simp
      refine hK.out _ _ (hSw.trans (hb1'.mono hSw.size)) (fun hSn => ?_)
      clear hK K hSw
      have hSw := hSn
      clear hSn
      go_simp
      refine wpAnyH_ready (rs := [10]) (by kernel_rfl) (by simp) ?_
      refine AllReadyH.cons rfl (fun K hK => ?_) AllReadyH.nil
      go_simp
      with_reducible refine (HSM.out _ _ _ _ hSw hf1).mono ?_
      rintro e2 wb ⟨rfl, hb2'⟩
      go_simp
      refine hK.out _ _ (hSw.trans (hb2'.mono hSw.size)) (fun hSn => ?_)
      clear hK K hSw
      have hSw := hSn
      clear hSn
      go_simp
      refine wpAnyH_take (i := 11) (v := ?vyb11) rfl (by kernel_rfl) (by kernel_rfl) (by kernel_rfl) (fun _ _ _ h => h) (Or.inl ⟨by rfl, ?hyb11⟩) hSw ?kyb11
      case hyb11 => (intro w hSw; (obtain ⟨q0, q1, q2, q3, q4, q5⟩ := KQ.out w hSw); go_simp; try (with_reducible rfl))
      go_simp
      refine wpAnyH_take (i := 12) (v := ?vyb12) rfl (by kernel_rfl) (by kernel_rfl) (by kernel_rfl) (fun _ _ _ h => h) (Or.inl ⟨by rfl, ?hyb12⟩) hSw ?kyb12
      case hyb12 => (intro w hSw; (obtain ⟨q0, q1, q2, q3, q4, q5⟩ := KQ.out w hSw); go_simp; try (with_reducible rfl))
      go_simp
      refine wpAnyH_done (by kernel_rfl) ?_ _
      have hz := (L10.below hSw).bel
      clear hSw KQ HVW HSM hf1 L10
      go_wp2
      go_ret
      exact ⟨rfl, hz⟩
end Go.Proofs.YthepokgkfaocmaaGreatDoor
