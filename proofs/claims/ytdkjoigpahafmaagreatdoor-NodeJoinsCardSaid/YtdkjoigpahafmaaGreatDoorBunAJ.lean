/- Texts ItemL, PlainOne, Unlist, ItemM, ItemN, Step, DiskF, DiskG, DiskH, StepB in one. No conditions. -/
import Derived.Test.YtdkjoigpahafmaaGreatDoorBunAA
import Derived.Test.YtdkjoigpahafmaaGreatDoorBunAI
import Derived.Test.YtdkjoigpahafmaaGreatDoorBunAF
import Derived.Test.YtdkjoigpahafmaaGreatDoorBunAC
import Derived.Deep.RegionHeld3
import Derived.Test.YtdkjoigpahafmaaGreatDoorBunAD
import Derived.Deep.RegionLaw
import Derived.StillTailTactics

set_option linter.unusedSimpArgs false
set_option linter.unusedVariables false
set_option maxRecDepth 100000
set_option maxHeartbeats 16000000
namespace Go.Proofs.YtdkjoigpahafmaaGreatDoor
section
open Go Go.RowKit Go.Lib
def It.ns (x : It) : List Nat := [x.t, x.v, sgn x.x]
theorem It.one_eq (x : It) : x.one = [UInt8.ofNat x.s.toNat, UInt8.ofNat x.k.toNat] ++ x.ns.flatMap Pn.put := by simp [It.one, It.ns]
theorem iown_apart {w : World} {base size n : Nat} {e : TypeId} {v : Value} {xs : List Value} (h : w.ownsRow base e size v n xs) {g : Nat} (hg : w.heap.size ≤ g) : some g ≠ v.ownBlock := by
 rcases h.2 with ⟨rfl, _⟩ | ⟨g', cap, cur, rfl, _, hh, _⟩
 ·intro e; cases e
 ·have : g' < w.heap.size := (Array.getElem?_eq_some_iff.1 hh).1
  intro e
  have e : g = g' := Option.some.inj e
  omega
theorem BoxO.igrown {w w' : World} {e : TypeId} {g : Nat} {xs : List Value} {r : Option Nat} (h : BoxO w e g xs) (hg : w.grownBy w' r) (hne : some g ≠ r) : BoxO w' e g xs := (hg.block g h.lt hne).trans h
theorem one_take {l : List It} {k : Nat} (h : k < l.length) : (l.take (k + 1)).flatMap It.one = (l.take k).flatMap It.one ++ l[k].one := by
 rw [List.take_succ_eq_append_getElem h, List.flatMap_append]
 simp
theorem ibytes_any (A : Option Addr) (N c : Nat) (b : List UInt8) (L : Option Addr) (m d : Nat) (l : List It) (w : World) (hN : N ≤ 1000000) (hm : m ≤ 2000) (hr : Row w.heap.size w A N 1 (bts b)) (hq : Row w.heap.size w L m 5 (itc l)) (hk : ∀ x ∈ l, x.ok = true ∧ x.fit) :
  Calls Tryz.prog 155 #[.slice A N c, .slice L m d] w fun e w' => ∃ A' M c', e = .returned (.tuple #[.slice A' M c', .int .i64 0]) ∧
   w'.ownsRow w.heap.size 5 1 (.slice A' M c') M (bts (b ++ It.bytes l)) ∧ M ≤ c' ∧ c' ≤ maxLen ∧ Below w.heap.size w w' := by
 obtain ⟨i0, hi0, hz0, hz1, hz2⟩ := info_parts info_u8
 have hln := hr.btlen
 have hmn := hq.itlen
 have hcv : ∀ w, (convert 3 25 (.int .i64 (m : Int))).run Tryz.prog w = .ok (.int .u64 (m : Int)) w := by
  intro w
  have : (m : Int) % 18446744073709551616 = (m : Int) := by omega
  simp [go_sem, convert, IntKind.wrap_u64, this]
 have hal := iall_any L m d l w (by omega) hq
 rw [show l.all It.ok = true from List.all_eq_true.2 fun x hx => (hk x hx).1] at hal
 have hm2 : ((2000 : Int) < (m : Int)) = False := eq_false (by omega)
 have HAL := Lib.hid hal
 have HK := Lib.hid hk
 clear hal hk
 go_enter Tryz.func155, Tryz.ntmps155
 go_wp2_with fail
 refine HAL.out.mono ?_
 rintro e w0 ⟨rfl, hb0⟩
 have hp := put_any A N c b m (by omega) w0 (by omega) ((hr.below hb0).up hb0.size)
 have hq0 := (hq.below hb0).up hb0.size
 have HP := Lib.hid hp
 clear hp HAL
 go_wp2_with fail
 refine HP.out.mono ?_
 rintro e w1 ⟨A1, c1, rfl, ho1, hc1, hm1, hb1⟩
 obtain ⟨M1, hM1⟩ : ∃ M1, M1 = N + (Pn.put m).length := ⟨_, rfl⟩
 have hM1b : M1 ≤ N + 10 := by have := (Pn.put_len m).2; omega
 rw [← hM1] at ho1 hc1 ⊢
 have hq1 := (hq0.below hb1).up hb1.size
 have hb01 := later_ hb0 hb1
 have HO1 := Lib.hid ho1
 have HB01 := Lib.hid hb01
 have HS0 := Lib.hid hb0.size
 clear ho1 hb01 hb1 hb0 hr hq hq0 HP hM1
 go_wp2
 go_loopw [7, 25] (fun o i wr => ∃ (k q : Nat) (A2 : Option Addr) (c2 : Nat), k ≤ m ∧ o = .slice A2 q c2 ∧ i = .int .i64 (k : Int) ∧ Hid (q ≤ 32 * k ∧ wr.ownsRow w1.heap.size 5 1 (.slice A2 q c2) q (bts ((l.take k).flatMap It.one))) ∧ Below w1.heap.size w1 wr) (fun _ i _ => m - (intOf i).toNat)
 case atStart => exact ⟨0, 0, none, 0, Nat.zero_le _, rfl, rfl, Lib.hid ⟨by omega, World.ownsRow_nil _ _ _ _⟩, Below.refl _ _⟩
 case round =>
  obtain ⟨k, q, A2, c2, hkm, rfl, rfl, HQ, hbl⟩ := hrel
  by_cases hlt : k < m
  ·obtain ⟨p, hl, rfl, hbk, d0, d1, d2, d3, d4⟩ := (hq1.below hbl).it hlt
   have hki : (k : Int) < (m : Int) := by omega
   have hwk : IntKind.i64.wrap (k : Int) = (k : Int) := IntWalk.i64_in _ (by omega)
   obtain ⟨hxk, hxf⟩ := HK.out _ (List.getElem_mem hl)
   have hot := one_take hl
   have hq32 := HQ.out.1
   generalize l[k] = x at *
   rw [It.ok_iff] at hxk
   have e1 := iu8_of (x := x.s) (by omega) (by omega)
   have e2 := iu8_of (x := x.k) (by omega) (by omega)
   rw [It.one_eq] at hot
   generalize UInt8.ofNat x.s.toNat = u1 at *
   generalize UInt8.ofNat x.k.toNat = u2 at *
   have hU := (Below.refl wr.heap.size wr).alloc (Nat.le_refl _) (.cells #[.int .i64 x.s, .int .i64 x.k, .int .u64 (x.t : Int), .int .u64 (x.v : Int), .int .i64 x.x] 27)
   have hbx : BoxO (wr.alloc (.cells #[.int .i64 x.s, .int .i64 x.k, .int .u64 (x.t : Int), .int .u64 (x.v : Int), .int .i64 x.x] 27)) 27 wr.heap.size x.cells := BoxO.new wr #[.int .i64 x.s, .int .i64 x.k, .int .u64 (x.t : Int), .int .u64 (x.v : Int), .int .i64 x.x] 27
   obtain ⟨U, hUe⟩ : ∃ U, U = wr.alloc (.cells #[.int .i64 x.s, .int .i64 x.k, .int .u64 (x.t : Int), .int .u64 (x.v : Int), .int .i64 x.x] 27) := ⟨_, rfl⟩
   rw [← hUe] at hU hbx
   have hrow : Row (U.alloc (.cells #[.int .u8 (u1.toNat : Int), .int .u8 (u2.toNat : Int)] 5)).heap.size (U.alloc (.cells #[.int .u8 (u1.toNat : Int), .int .u8 (u2.toNat : Int)] 5)) (some ⟨U.heap.size, 0, none⟩) 2 1 (bts [u1, u2]) := by
    have := Row.new U #[.int .u8 (u1.toNat : Int), .int .u8 (u2.toNat : Int)] 5 (n := 2) (size := 1) rfl
    simpa [bts] using this
   have b0 := hbx.cell 0
   have b1 := hbx.cell 1
   simp only [It.cells, gE0, gE1] at b0 b1
   have hbU := later_ hbl hU
   have hoU := own_below HQ.out.2 hU
   have hbV := hbU.alloc hbU.size (.cells #[.int .u8 (u1.toNat : Int), .int .u8 (u2.toNat : Int)] 5)
   have hoV := hoU.alloc (.cells #[.int .u8 (u1.toNat : Int), .int .u8 (u2.toNat : Int)] 5)
   have hbxV := hbx.alloc (.cells #[.int .u8 (u1.toNat : Int), .int .u8 (u2.toNat : Int)] 5)
   have HROW := Lib.hid hrow
   have HBV := Lib.hid hbV
   have HOV := Lib.hid hoV
   have HBXV := Lib.hid hbxV
   have HOT := Lib.hid hot
   have HXK := Lib.hid hxk
   have HXF := Lib.hid hxf
   have hUs := hUe.symm
   have hsz : wr.heap.size + 1 = U.heap.size := by rw [hUe]; simp
   clear hrow hbV hoV hbxV hot hxk hxf hU hbx hbU hoU hUe
   go_wp2_with (at_builtin; refine stop_in ?_)
   refine stop_out (wpList_app rfl (.tmp 29) (.tmp 36) _ rfl w1.heap.size 5 i0 _ 1 1 Tryz.underlying121 hi0 hz0 hz1 hz2 rfl (by omega) w1 HBV.out HBV.out.size _ q _ rfl HOV.out _ _ 2 2 (bts [u1, u2]) rfl HROW.out (bts_one _) (q + 2) _ rfl rfl (by unfold maxLen; omega) (by omega) ?_)
   intro A3 c3 w3 hown3 hb3 hg3 hc3 hm3
   have hbx3 := HBXV.out.igrown hg3 (iown_apart HQ.out.2 (Nat.le_refl _))
   have hkz : ∀ w', Below w3.heap.size w3 w' → w'.cell? ⟨wr.heap.size, 2, none⟩ = some (.int .u64 (x.t : Int)) ∧ w'.cell? ⟨wr.heap.size, 3, none⟩ = some (.int .u64 (x.v : Int)) ∧ w'.cell? ⟨wr.heap.size, 4, none⟩ = some (.int .i64 x.x) := fun w' h => by
    have e := hbx3.below h
    exact ⟨e.cell 2, e.cell 3, e.cell 4⟩
   have KZ := Lib.hid hkz
   have d0 := hbx3.cell 2
   have d1 := hbx3.cell 3
   have d2 := hbx3.cell 4
   simp only [It.cells, gE0, gE1] at d0 d1 d2
   have hsg := fun W => sign_any x.x HXF.out.1 HXF.out.2 W
   have HSG := Lib.hid hsg
   have HO3 := Lib.hid hown3
   have HB3 := Lib.hid hb3
   have hns : x.ns = [x.t, x.v, sgn x.x] := rfl
   have hn64 : ∀ n ∈ x.ns, n < 18446744073709551616 := by
    have h1 := HXK.out
    have h2 := sgn_lt HXF.out.1 HXF.out.2
    rw [hns]
    intro n hn
    simp only [List.mem_cons, List.not_mem_nil, or_false] at hn
    rcases hn with rfl | rfl | rfl <;> omega
   obtain ⟨sg, hsgn⟩ : ∃ sg, sg = sgn x.x := ⟨_, rfl⟩
   rw [← hsgn] at hns
   have HNS := Lib.hid hns
   have HN64 := Lib.hid hn64
   have HSGN := Lib.hid hsgn
   clear hsg hown3 hb3 hbx3 hns hn64 hsgn hg3 HBV HOV HBXV HROW e1 e2 b0 b1 hUs
   go_wp2_with fail
   clear d0 d1 d2 hkz
   refine wp_region_held_drew (S := fun w' => Below w3.heap.size w3 w') rfl (below_drew (Below.refl _ _)) (fun hSw => ?_)
   refine wpT (i := 0) (v := ?vsg0) ?hsg0 hSw ?ksg0
   case hsg0 => (intro w hSw; (obtain ⟨d0, d1, d2⟩ := KZ.out w hSw); go_simp; try (with_reducible rfl))
   go_simp
   refine wpT (i := 1) (v := ?vsg1) ?hsg1 hSw ?ksg1
   case hsg1 => (intro w hSw; (obtain ⟨d0, d1, d2⟩ := KZ.out w hSw); go_simp; try (with_reducible rfl))
   go_simp
   refine wpT (i := 2) (v := ?vsg2) ?hsg2 hSw ?ksg2
   case hsg2 => (intro w hSw; (obtain ⟨d0, d1, d2⟩ := KZ.out w hSw); go_simp; try (with_reducible rfl))
   go_simp
   refine wpT (i := 3) (v := ?vsg3) ?hsg3 hSw ?ksg3
   case hsg3 => (intro w hSw; (obtain ⟨d0, d1, d2⟩ := KZ.out w hSw); go_simp; try (with_reducible rfl))
   go_simp
   refine wpT (i := 4) (v := ?vsg4) ?hsg4 hSw ?ksg4
   case hsg4 => (intro w hSw; (obtain ⟨d0, d1, d2⟩ := KZ.out w hSw); go_simp; try (with_reducible rfl))
   go_simp
   refine wpT (i := 5) (v := ?vsg5) ?hsg5 hSw ?ksg5
   case hsg5 => (intro w hSw; (obtain ⟨d0, d1, d2⟩ := KZ.out w hSw); go_simp; try (with_reducible rfl))
   go_simp
   refine wpT (i := 9) (v := ?vsg9) ?hsg9 hSw ?ksg9
   case hsg9 => (intro w hSw; (obtain ⟨d0, d1, d2⟩ := KZ.out w hSw); go_simp; try (with_reducible rfl))
   go_simp
   refine wpAnyH_ready (rs := [6]) (by kernel_rfl) (by simp) ?_
   refine AllReadyH.cons rfl (fun K hK => ?_) AllReadyH.nil
   go_simp
   with_reducible refine (HSG.out _).mono ?_
   rintro e w7 ⟨rfl, rfl⟩
   go_simp
   refine hK.out _ _ hSw (fun hSn => ?_)
   clear hK K hSw
   have hSw := hSn
   clear hSn
   go_simp
   refine wpAnyH_ready (rs := [7]) (by kernel_rfl) (by simp) ?_
   refine AllReadyH.cons rfl (fun K hK => ?_) AllReadyH.nil
   skip
   go_simp
   refine hK.out _ _ (hSw.alloc hSw.size _) (fun hSn => ?_)
   clear hK K hSw
   have hSw := hSn
   clear hSn
   go_simp
   refine wpT (i := 8) (v := ?vsg8) ?hsg8 hSw ?ksg8
   case hsg8 => (intro w hSw; (obtain ⟨d0, d1, d2⟩ := KZ.out w hSw); go_simp; try (with_reducible rfl))
   go_simp
   refine wpAnyH_done (by kernel_rfl) ?_ _
   have hsv := hSw
   clear hSw KZ HSG d0 d1 d2 d3 d4
   have hog : some w3.heap.size ≠ (Value.slice A3 (q + 2) c3).ownBlock := iown_apart HO3.out (Nat.le_refl _)
   have hoW := own_below HO3.out hsv
   have hbxW : BoxO (w3.alloc (.cells #[.int .u64 (x.t : Int), .int .u64 (x.v : Int), .int .u64 (sgn x.x : Int)] 25)).drew 25 w3.heap.size (u64v x.ns) := by
    have := (BoxO.new w3 #[.int .u64 (x.t : Int), .int .u64 (x.v : Int), .int .u64 (sgn x.x : Int)] 25).drew
    rw [HNS.out, HSGN.out]
    exact this
   have hb13 := HB3.out.trans (hsv.mono HB3.out.size)
   obtain ⟨g, hg⟩ : ∃ g, g = w3.heap.size := ⟨_, rfl⟩
   rw [← hg] at hog hbxW
   obtain ⟨W, hW⟩ : ∃ W, W = (w3.alloc (.cells #[.int .u64 (x.t : Int), .int .u64 (x.v : Int), .int .u64 (sgn x.x : Int)] 25)).drew := ⟨_, rfl⟩
   rw [← hW] at hoW hbxW hb13 hsv ⊢
   have H0 := Lib.hid (And.intro hoW (And.intro hbxW hb13))
   have HOG := Lib.hid hog
   have hgs := hg.symm
   clear hoW hbxW hb13 hog hW HO3 HB3 hsv hg
   rw [hgs]
   go_wp2_with fail
   go_loopw [7, 47] (fun o i wq => ∃ (j q2 : Nat) (A4 : Option Addr) (c4 : Nat), j ≤ 3 ∧ o = .slice A4 q2 c4 ∧ i = .int .i64 (j : Int) ∧ Hid (q2 ≤ q + 2 + 10 * j ∧ wq.ownsRow w1.heap.size 5 1 (.slice A4 q2 c4) q2 (bts ((l.take k).flatMap It.one ++ ([u1, u2] ++ (x.ns.take j).flatMap Pn.put))) ∧ some g ≠ (Value.slice A4 q2 c4).ownBlock ∧ BoxO wq 25 g (u64v x.ns)) ∧ Below w1.heap.size w1 wq) (fun _ i _ => 3 - (intOf i).toNat)
   case atStart => exact ⟨0, q + 2, A3, c3, by omega, rfl, rfl, Lib.hid ⟨by omega, by have := H0.out.1; simpa [bts] using this, HOG.out, H0.out.2.1⟩, H0.out.2.2⟩
   case round =>
    obtain ⟨j, q2, A4, c4, hj3, rfl, rfl, HJ, hbq⟩ := hrel
    have hxl : x.ns.length = 3 := rfl
    by_cases hjl : j < 3
    ·have hji : (j : Int) < 3 := by omega
     have hwj : IntKind.i64.wrap (j : Int) = (j : Int) := IntWalk.i64_in _ (by omega)
     have hcg := HJ.out.2.2.2.cell j
     rw [u64v_get, List.getElem?_eq_getElem (by omega)] at hcg
     have hn64 := HN64.out _ (List.getElem_mem (show j < x.ns.length by omega))
     have htk : x.ns.take (j + 1) = x.ns.take j ++ [x.ns[j]] := List.take_succ_eq_append_getElem (by omega)
     generalize x.ns[j] = n at *
     simp only [Option.map_some] at hcg
     have hpn := fun W => put_any none 0 0 [] n hn64 W (by omega) Row.nil_
     have hpl := Pn.put_len n
     simp only [Nat.zero_add, List.nil_append] at hpn
     have HPN := Lib.hid hpn
     have HTK := Lib.hid htk
     clear hpn htk
     go_wp2_with fail
     refine (HPN.out _).mono ?_
     rintro e w7 ⟨A5, c5, rfl, ho5, h51, h52, hb5⟩
     have hr5 := Row.own ho5
     have ho4 := own_below HJ.out.2.1 hb5
     have hbx5 := HJ.out.2.2.2.below hb5
     have hbq5 := hbq.trans (hb5.mono hbq.size)
     have hg7 := hbx5.lt
     generalize hpln : (Pn.put n).length = pl at *
     have hq2 := HJ.out.1
     have HR5 := Lib.hid hr5
     have HO4 := Lib.hid ho4
     have HBX5 := Lib.hid hbx5
     have HBQ5 := Lib.hid hbq5
     clear ho5 hr5 ho4 hbx5 hbq5 HPN hb5
     go_wp2_with (at_builtin; refine stop_in ?_)
     refine stop_out (wpList_appF rfl (.tmp 51) (.tmp 53) _ rfl w1.heap.size 5 i0 _ 1 1 Tryz.underlying121 hi0 hz0 hz1 hz2 rfl (by omega) w1 HBQ5.out HBQ5.out.size _ q2 _ rfl HO4.out _ _ pl c5 (by omega) (bts (Pn.put n)) rfl HR5.out (bts_one _) (q2 + pl) (bts ((l.take k).flatMap It.one ++ ([u1, u2] ++ (x.ns.take (j + 1)).flatMap Pn.put))) rfl (by rw [HTK.out]; simp [bts]) (by unfold maxLen; omega) (by omega) ?_)
     intro A6 c6 w8 z1 z2 z3 z4 z5 z6
     have hng : some g ≠ (Value.slice A6 (q2 + pl) c6).ownBlock := by
      rcases z6 with z6 | z6
      ·rw [z6]; exact HJ.out.2.2.1
      ·rw [z6]
       intro e
       have e := Option.some.inj e
       omega
     have HF := Lib.hid (And.intro (show q2 + pl ≤ q + 2 + 10 * (j + 1) by omega) (And.intro z1 (And.intro hng (HBX5.out.igrown z3 HJ.out.2.2.1))))
     clear z1 z3 z6 hng HR5 HO4 HBX5 HBQ5 hcg
     go_wp2
     go_roundw
     case rel => exact ⟨j + 1, q2 + pl, A6, c6, by omega, rfl, by go_num, HF, z2⟩
     case measure => simp [intOf]; omega
    ·have hji : ((j : Int) < 3) = False := eq_false (by omega)
     have hj : j = 3 := by omega
     have htk : x.ns.take j = x.ns := List.take_of_length_le (by omega)
     have ho := HJ.out.2.1
     rw [htk, ← HOT.out] at ho
     have HF := Lib.hid (And.intro (show q2 ≤ 32 * (k + 1) by have := HJ.out.1; omega) ho)
     clear ho htk
     go_wp2
     go_roundw
     case rel => exact ⟨k + 1, q2, A4, c4, by omega, rfl, by go_num, HF, hbq⟩
     case measure => simp [intOf]; omega
  ·have hki : ((k : Int) < (m : Int)) = False := eq_false (by omega)
   have hall : l.take k = l := List.take_of_length_le (by omega)
   have hq := HQ.out
   rw [hall] at hq
   have hro := Row.own hq.2
   have hoo := own_base (own_below HO1.out hbl) HS0.out
   have hbz := HB01.out.trans (hbl.mono HB01.out.size)
   have hqb := hq.1
   have HRO := Lib.hid hro
   have HOO := Lib.hid hoo
   have HBZ := Lib.hid hbz
   clear hq hro hoo hbz hall
   go_wp2_with (at_builtin; refine stop_in ?_)
   refine stop_out (wpList_app rfl (.tmp 57) (.tmp 58) _ rfl w.heap.size 5 i0 _ 1 1 Tryz.underlying121 hi0 hz0 hz1 hz2 rfl (by omega) w HBZ.out HBZ.out.size _ M1 _ rfl HOO.out _ _ q c2 _ rfl HRO.out (bts_one _) (M1 + q) (bts (b ++ It.bytes l)) rfl (by simp [It.bytes, bts, hmn]) (by unfold maxLen; omega) (by omega) ?_)
   intro A6 c6 w8 z1 z2 z3 z4 z5
   have HF := Lib.hid z1
   clear z1 z3 HRO HOO HBZ HQ
   go_wp2
   go_ret2
   exact ⟨A6, _, c6, rfl, HF.out, z4, z5, z2⟩
end
section
namespace It
variable {b r : List UInt8} {ns : List Nat} {k : Nat}
end It
end
section
open Go Go.RowKit
namespace Pn
theorem takeF_size : ∀ (l : List UInt8) (i acc : Nat), (takeF i acc l).2.2 = 0 → (takeF i acc l).2.1 ≤ i + l.length
 | [], i, acc, h => by simp [takeF] at h
 | c :: r, i, acc, h => by
  unfold takeF at h ⊢
  split
  ·rw [if_pos (by assumption)] at h; simp at h
  ·rw [if_neg (by assumption)] at h
   split
   ·simp
   ·rw [if_neg (by assumption)] at h
    have := takeF_size r (i + 1) _ h
    simp only [List.length_cons]
    omega
theorem take_size {l : List UInt8} (h : (take l).2.2 = 0) : (take l).2.1 ≤ l.length := by
 have := takeF_size l 0 0 h
 unfold take
 omega
end Pn
theorem row_from {B N : Nat} {w : World} {A : Option Addr} {l : List UInt8} (hr : Row B w A N 1 (bts l)) {s : Nat} (hs : s ≤ N) {A' : Option Addr} (hA : s < N → A' = A.map (·.add s)) : Row B w A' (N - s) 1 (bts (l.drop s)) := by
 have h := hr.cut (A' := A') hs (Nat.le_refl N) (fun hlt => by rw [Nat.mul_one]; exact hA hlt)
 rw [Nat.mul_one, Nat.mul_one, ← bts_drop, ← bts_take] at h
 rwa [List.take_of_length_le (by have := hr.btlen; rw [List.length_drop]; omega)] at h
theorem rtake_gen (B R : Nat) (hB : B ≤ R) (A : Option Addr) (N c : Nat) (l : List UInt8) (ok : Bool) (most : Nat) (w : World) (hN : N ≤ 1000000000) (hNc : N ≤ c) (_hm : most < 18446744073709551616)
  (hR : BoxO w 311 R [.slice A N c, .bool ok]) (hr : Row B w A N 1 (bts l)) :
  Calls Tryz.prog 235 #[.pointer (some ⟨R, 0, none⟩), .int .u64 (most : Int)] w fun e w' => ∃ A' N' c', e = .returned (.int .u64 ((Rd.take most (l, ok)).1 : Int)) ∧ N' ≤ c' ∧ N' ≤ N ∧ Row B w' A' N' 1 (bts (Rd.take most (l, ok)).2.1) ∧ BoxO w' 311 R [.slice A' N' c', .bool (Rd.take most (l, ok)).2.2] ∧ Chg [R] w w' := by
 have h0 := hR.cell 0
 have h1 := hR.cell 1
 have hf := hR.free 0
 have hf1 := hR.free 1
 have ht := take_any A N c l w (by omega) (hr.up (Nat.le_trans hB (Nat.le_of_lt hR.lt)))
 have hts := Pn.take_size (l := l)
 have hln := hr.btlen
 have hrt : Rd.take most (l, ok) = if ok = true ∧ (Pn.take l).2.2 = 0 ∧ (Pn.take l).1 ≤ most then ((Pn.take l).1, (l.drop (Pn.take l).2.1, true)) else (0, (l, false)) := rfl
 obtain ⟨T, hT⟩ : ∃ T, T = Rd.take most (l, ok) := ⟨_, rfl⟩
 rw [← hT] at hrt ⊢
 generalize Pn.take l = p at *
 obtain ⟨n, s, er⟩ := p
 simp only [gE0, gE1] at h0 h1 ht hts hrt
 clear hT
 have HRT := Lib.hid hrt
 clear hrt
 have bad : ∀ (W : World), (ok = true ∧ er = 0 ∧ n ≤ most → False) → W = w.setCell ⟨R, 1, none⟩ (.bool false) → ∃ A' N' c', Ending.returned (.int .u64 0) = .returned (.int .u64 (T.1 : Int)) ∧ N' ≤ c' ∧ N' ≤ N ∧ Row B W A' N' 1 (bts T.2.1) ∧ BoxO W 311 R [.slice A' N' c', .bool T.2.2] ∧ Chg [R] w W := by
  intro W h hW
  rw [HRT.out, if_neg h, hW]
  exact ⟨A, N, c, rfl, hNc, Nat.le_refl _, hr.setCell hB _, hR.store 1 _, chg_set w ⟨R, 1, none⟩ _⟩
 have BAD := Lib.hid bad
 clear bad
 cases ok with
 | false =>
  clear hts hln
  go_enter Tryz.func235, Tryz.ntmps235
  go_wp2_with fail
  refine ht.mono ?_
  rintro e w1 ⟨rfl, rfl⟩
  clear ht
  go_wp2
  go_ret
  exact BAD.out _ (fun h => by cases h.1) rfl
 | true =>
  by_cases he : er = 0
  ·by_cases hn : n ≤ most
   ·subst he
    have hsl := hts rfl
    obtain ⟨A', hA'⟩ : ∃ A', (if c = s then A else Option.map (fun x => x.add s) A) = A' := ⟨_, rfl⟩
    have hrow := row_from hr (s := s) (A' := A') (by omega) (fun hlt => by rw [← hA', if_neg (by omega)])
    have hn' : ((most : Int) < (n : Int)) = False := by simp; omega
    have hsN : s ≤ N := by omega
    have hscc : s ≤ c := by omega
    have hres : T = (n, (l.drop s, true)) := by rw [HRT.out, if_pos ⟨rfl, rfl, hn⟩]
    have HRES := Lib.hid hres
    clear hts hln hres BAD HRT
    go_enter Tryz.func235, Tryz.ntmps235
    go_wp2_with fail
    refine ht.mono ?_
    rintro e w1 ⟨rfl, rfl⟩
    clear ht
    go_wp2
    go_ret
    rw [HRES.out]
    exact ⟨A', N - s, c - s, rfl, by omega, by omega, hrow.setCell hB _, hR.store 0 _, chg_set w ⟨R, 0, none⟩ _⟩
   ·subst he
    have hn' : (most : Int) < (n : Int) := by omega
    clear hts hln
    go_enter Tryz.func235, Tryz.ntmps235
    go_wp2_with fail
    refine ht.mono ?_
    rintro e w1 ⟨rfl, rfl⟩
    clear ht
    go_wp2
    go_ret
    exact BAD.out _ (fun h => hn h.2.2) rfl
  ·have he3 : ((er : Int) == 0) = false := by simp; omega
   have he4 : ¬ (er : Int) = 0 := by omega
   clear hts hln
   go_enter Tryz.func235, Tryz.ntmps235
   go_wp2_with fail
   refine ht.mono ?_
   rintro e w1 ⟨rfl, rfl⟩
   clear ht
   go_wp2
   go_ret
   exact BAD.out _ (fun h => he h.2.1) rfl
end
section
open Go Go.RowKit Go.Lib
def a3 (ns : List Nat) : List Value := [.int .u64 (ns.getD 0 0 : Nat), .int .u64 (ns.getD 1 0 : Nat), .int .u64 (ns.getD 2 0 : Nat)]
end
section
open Go Go.RowKit Go.Lib
theorem Its.nil (B : Nat) (w : World) : Its B w none 0 0 [] := ⟨⟨rfl, fun j hj => by simp [itc] at hj⟩, Nat.le_refl _, by unfold maxLen; omega, fun a ha => by cases ha⟩
end
section
open Go Go.RowKit
theorem step_appF {P : Program} {ops : Array Oper} {o : Oper} {a : Act} {w : World} {K : Act → World → Prop} {Q : Exit → Act → World → Prop} {E : Prop} (hgd : o.guard = none) (s x : Operand) (t : TypeId)
  (ho : o.op = .call { callee := .builtin .append, args := #[s, x], argTypes := #[t, t] })
  (base : Nat) (e : TypeId) (i : TypeInfo) (z : Value) (size bytes : Nat) (ht : P.underlying t = some (.slice e)) (hi : P.info? e = some i) (hz : i.zero = some z)
  (hsize : i.size = size) (hby : i.bytes = bytes) (hzs : z.cells.size = size) (hsz : 0 < size) (hbase : base ≤ w.heap.size) (v : Value) (n : Nat) (xs : List Value) (hs : a.eval s = v) (hown : w.ownsRow base e size v n xs)
  (B : Nat) (A : Option Addr) (m c : Nat) (hm : 0 < m) (news : List Value) (hx : a.eval x = .slice A m c) (hr : Row B w A m size news) (h1 : ∀ u ∈ news, u.oneCell' = true)
  (N : Nat) (X : List Value) (hN : n + m = N) (hX : xs ++ news = X) (h63 : N ≤ maxLen) (hbytes : N * bytes ≤ 140737488355328)
  (h : ∀ A' c' w', w'.ownsRow base e size (.slice A' N c') N X → w.grownBy w' v.ownBlock → N ≤ c' → c' ≤ maxLen → ((Value.slice A' N c').ownBlock = v.ownBlock ∨ (Value.slice A' N c').ownBlock = some w.heap.size) → K (a.put o.dst (.slice A' N c')) w') :
  if Region.wanted o (yielded ops a.tmps) = true then Oper.wp P o a w K Q else E := by
 have hw : Region.wanted o (yielded ops a.tmps) = true := by simp [Region.wanted, hgd]
 rw [if_pos hw]
 subst hN
 subst hX
 have hpos : 0 < news.length := by
  rw [hr.len]
  exact Nat.mul_pos hm hsz
 obtain ⟨a', rfl, _⟩ := hr.some_ hpos
 obtain ⟨v', w', hrun, h3, h4, _, h6⟩ := run_append_own_at (P := P) (ty := o.type) w base t e i z size bytes ht hi hz hsize hby hzs hsz v n xs hown a' m c news hr.len hr.cells h1 h63 hbytes hbase
 obtain ⟨A', c', rfl, h5, h7, _⟩ := own_form h3
 unfold Oper.wp execOp
 simp only [ho, resolve, invoke, builtin, Sem.run_bind, Sem.run_pure, Result.andThen_ok, List.map_toArray, List.map_cons, List.map_nil, hs, hx, hrun]
 exact h A' c' w' h3 h4 h5 h7 h6
end
section
open Go Go.RowKit Go.Maps
theorem info_turn : (Tryz.prog.info? 125).map (fun i => (i.zero, i.size, i.bytes)) = some (some (.agg #[.int .i64 0, .int .i64 0, .string ⟨#[]⟩, .string ⟨#[]⟩]), 4, 48) := by kernel_rfl
theorem grown_box {w3 w4 : World} {X : Dw} {S : Sd} {o : Obj} (h : DK w3 X S) (hg : ((w3.alloc o).drew).grownBy w4 X.tv.ownBlock) : BoxO w4 105 X.d (X.cells S) :=
 ((h.box.alloc o).drew).chg (Chg.of_grown (F := X.tv.ownBlock.toList) hg (fun b e => by simp [e])) (fun hm => (h.apart.tv _ (by simpa using hm)).1 rfl)
theorem upd_turnD {w3 w4 : World} {X : Dw} {S : Sd} {o : Obj} (h : DK w3 X S) (t : Tn) {v : Value} (hg : ((w3.alloc o).drew).grownBy w4 X.tv.ownBlock) (hown : w4.ownsRow 0 125 4 v (S.turns.length + 1) (S.turns.flatMap turnCells ++ turnCells t))
  (hob : v.ownBlock = X.tv.ownBlock ∨ v.ownBlock = some ((w3.alloc o).drew).heap.size) : DK (w4.setCell ⟨X.d, 4, none⟩ v) { X with tv := v } { S with turns := S.turns ++ [t] } ∧ Chg X.foot w3 (w4.setCell ⟨X.d, 4, none⟩ v) ∧ ∀ g ∈ ({ X with tv := v } : Dw).foot, g ∈ X.foot ∨ w3.heap.size ≤ g := by
 have hbox := grown_box h hg
 have ha := h.apart
 have hsz : ((w3.alloc o).drew).heap.size = w3.heap.size + 1 := by simp
 have hvd : ∀ g, v.ownBlock = some g → g ≠ X.d := fun g e e2 => by
  subst e2
  rcases hob with h1 | h1
  ·exact (ha.tv X.d (by rw [← h1, e])).1 rfl
  ·rw [e] at h1
   injection h1 with h1
   have := h.box.lt
   omega
 have hc1 : Chg X.tv.ownBlock.toList w3 w4 := ((Chg.refl _ w3).alloc o).drew.trans (Chg.of_grown (F := X.tv.ownBlock.toList) hg (fun b e => by simp [e])) (fun g hg => .inl hg)
 have hc2 : Chg ([X.d] ++ X.tv.ownBlock.toList) w3 (w4.setCell ⟨X.d, 4, none⟩ v) := (hc1.mono (fun g hg => .inl (List.mem_append_right _ hg))).setCell v (.inl (by simp))
 have hv : ∀ g, v.ownBlock = some g → X.tv.ownBlock = some g ∨ w3.heap.size ≤ g := fun g e => by
  rcases hob with h1 | h1
  ·exact .inl (by rw [← h1, e])
  ·rw [e] at h1
   injection h1 with h1
   exact .inr (by omega)
 have hdk := DK.setTurns (w' := w4.setCell ⟨X.d, 4, none⟩ v) (tv := v) (ts := S.turns ++ [t]) h (by
   have h1 := own_chg hown (chg_set w4 ⟨X.d, 4, none⟩ v) (fun g e hg => hvd g e (by simpa using hg))
   simpa using h1) hc2 hv (by
   have h1 := hbox.store 4 v
   exact h1)
 refine ⟨hdk, hc2.mono (fun g hg => .inl ?_), fun g hg => ?_⟩
 ·rcases List.mem_append.1 hg with h1 | h1
  ·rw [List.mem_singleton.1 h1]; exact mem_foot.2 (.inl rfl)
  ·exact mem_foot.2 (.inr (.inr (.inr (.inr (.inl (by simpa using h1))))))
 ·rcases mem_foot.1 hg with h1 | h1 | h1 | h1 | h1 | h1
  ·exact .inl (mem_foot.2 (.inl h1))
  ·exact .inl (mem_foot.2 (.inr (.inl h1)))
  ·exact .inl (mem_foot.2 (.inr (.inr (.inl h1))))
  ·exact .inl (mem_foot.2 (.inr (.inr (.inr (.inl h1)))))
  ·rcases hv g h1 with h2 | h2
   ·exact .inl (mem_foot.2 (.inr (.inr (.inr (.inr (.inl h2))))))
   ·exact .inr h2
  ·exact .inl (mem_foot.2 (.inr (.inr (.inr (.inr (.inr h1))))))
theorem upd_turn {w3 w4 : World} {X : Dw} {S : Sd} {o : Obj} (h : DK w3 X S) (t : Tn) {v : Value} (hg : ((w3.alloc o).drew).grownBy w4 X.tv.ownBlock) (hown : w4.ownsRow 0 125 4 v (S.turns.length + 1) (S.turns.flatMap turnCells ++ turnCells t))
  (hob : v.ownBlock = X.tv.ownBlock ∨ v.ownBlock = some ((w3.alloc o).drew).heap.size) : Upd X w3 (w4.setCell ⟨X.d, 4, none⟩ v) { S with turns := S.turns ++ [t] } :=
 let ⟨h1, h2, h3⟩ := upd_turnD h t hg hown hob
 ⟨{ X with tv := v }, rfl, h1, h2, h3⟩
theorem Upd.trans {X : Dw} {w w1 w2 : World} {S2 : Sd} {X1 : Dw} (e : X1.d = X.d) (c : Chg X.foot w w1) (hf : ∀ g ∈ X1.foot, g ∈ X.foot ∨ w.heap.size ≤ g) (h2 : Upd X1 w1 w2 S2) : Upd X w w2 S2 := by
 obtain ⟨X', e', h, c', hf'⟩ := h2
 refine ⟨X', e'.trans e, h, c.trans c' (fun g hg => hf g hg), fun g hg => ?_⟩
 rcases hf' g hg with h3 | h3
 ·exact hf g h3
 ·exact .inr (Nat.le_trans c.size h3)
theorem remove_any (X : Dw) (S : Sd) (s : ByteArray) (hs : s.size ≤ maxLen) (hw : S.Wf) (hl : S.load ≤ 1099511627776) (w : World) (h : DK w X S) :
  Calls Tryz.prog 100 #[.pointer (some ⟨X.d, 0, none⟩), .string s] w fun e w' => e = .returned (.int .i64 ((S.remove s.data.toList).2 : Int)) ∧ Upd X w w' (S.remove s.data.toList).1 := by
 have hcall := call1 X S s hs hw w h
 have hw1 := hw.call [s.data.toList]
 have hld := Sd.call_load S [s.data.toList]
 obtain ⟨e1, e2, e3, e4, e5, _, _⟩ := Sd.call_same S [s.data.toList]
 have hsy : S.remove s.data.toList = if (S.call [s.data.toList]).2 ≠ 0 then S.call [s.data.toList] else if (S.names.get s.data.toList).isNone then ((S.call [s.data.toList]).1, 11)
  else ({ (S.call [s.data.toList]).1 with names := Tn.go ⟨3, 0, s.data.toList, []⟩ S.names, turns := S.turns ++ [⟨3, 0, s.data.toList, []⟩] }, 0) := rfl
 generalize S.call [s.data.toList] = R at *
 obtain ⟨S1, er⟩ := R
 simp only at *
 by_cases h0 : er = 0
 ·subst h0
  rw [if_neg (by simp)] at hsy
  have hfd := fun w1 h1 => find_any X S1 s hs w1 h1 hw1.names
  cases h3 : S.names.get s.data.toList with
  | none =>
   simp only [h3, Option.isNone_none, if_true] at hsy
   rw [hsy]
   simp only [e1, h3] at hfd
   clear hsy h3 e1 e2 e3 e4 e5 hw1 hw h hld
   go_enter Tryz.func100, Tryz.ntmps100
   go_wp2_with fail
   refine hcall.mono ?_
   rintro e w1 ⟨rfl, h1, hc1⟩
   go_wp2_with fail
   refine (hfd w1 h1).mono ?_
   rintro e w2 ⟨rfl, rfl⟩
   go_wp2
   go_ret
   exact ⟨rfl, Upd.called h1 hc1⟩
  | some i =>
   simp only [h3, Option.isNone_some, Bool.false_eq_true, if_false] at hsy
   rw [hsy, ← e1, ← e4]
   simp only [e1, h3] at hfd
   have hml : S1.turns.length + 1 ≤ 1099511627777 := by unfold Sd.load at hld hl; omega
   clear hsy h3 e1 e2 e3 e4 e5 hw h hld
   go_enter Tryz.func100, Tryz.ntmps100
   go_wp2_with fail
   refine hcall.mono ?_
   rintro e w1 ⟨rfl, h1, hc1⟩
   go_wp2_with fail
   refine (hfd w1 h1).mono ?_
   rintro e w2 ⟨rfl, rfl⟩
   unfold ptrV
   go_wp2
   have hbV : Below w1.heap.size w1 (w1.alloc (.cells #[.int .i64 3, .int .i64 0, .string s, .string ⟨#[]⟩] 125)) := (Below.refl _ _).alloc (Nat.le_refl _) _
   have hbox := BoxO.new w1 #[.int .i64 3, .int .i64 0, .string s, .string ⟨#[]⟩] 125
   have hlt : w1.heap.size < (w1.alloc (.cells #[.int .i64 3, .int .i64 0, .string s, .string ⟨#[]⟩] 125)).heap.size := by simp
   have h2 := h1.below hbV
   have hup0 := Chg.of_below hbV X.foot
   generalize w1.alloc (.cells #[.int .i64 3, .int .i64 0, .string s, .string ⟨#[]⟩] 125) = V at *
   have c0 := hbox.cell 0
   have c1 := hbox.cell 1
   have c2 := hbox.cell 2
   have c3 := hbox.cell 3
   have d2 := h2.box.cell 2
   simp only [Dw.cells, gE0, gE1] at c0 c1 c2 c3 d2
   have htb := h1.lt
   have hnamed := Lib.hid h2.names
   have hsm : S1.names.length < maxLen := by have := hw1.most; unfold maxLen; omega
   generalize w1.heap.size = tb at *
   go_still_tail 5, (by kernel_rfl)
   change wpList _ _ _ _ _ (World.drew V)
   go_wp2_with fail
   have hdo := do_any 3 0 s.data.toList [] (by simpa using hs) (by simp) (by omega) X.nb S1.names.length S1.names V.drew hnamed.out.drew hsm (by omega)
   simp only [turnV, str_list] at hdo
   refine hdo.mono ?_
   rintro e w3 ⟨rfl, hn3, hc3⟩
   have hc3' : Chg [X.nb] V w3 := (Chg.refl [X.nb] V).drew.trans hc3 (fun g hg => .inl hg)
   have h3 := h2.setNames hn3 hc3'
   have hbox3 := hbox.chg hc3' (by simp; have := htb X.nb (mem_foot.2 (.inr (.inl rfl))); omega)
   have c0 := hbox3.cell 0
   have c1 := hbox3.cell 1
   have c2 := hbox3.cell 2
   have c3 := hbox3.cell 3
   have d4 := h3.box.cell 4
   have f4 := h3.box.free 4
   have hxd := h3.box.lt
   obtain ⟨tA, tc, htv, _, _, _⟩ := own_form h3.turns
   simp only [Dw.cells, gE0, gE1] at c0 c1 c2 c3 d4
   rw [htv] at d4
   clear d2 hnamed hdo hn3
   have hrow4 := own_base h3.turns (Nat.zero_le _)
   rw [htv] at hrow4
   have hpre := fun (o : Obj) (w4 : World) (hg : ((w3.alloc o).drew).grownBy w4 (Value.slice tA S1.turns.length tc).ownBlock) => (⟨(grown_box h3 (by rw [htv]; exact hg)).cell 4, (grown_box h3 (by rw [htv]; exact hg)).free 4⟩ : w4.cell? ⟨X.d, 4, none⟩ = _ ∧ w4.frozen? ⟨X.d, 4, none⟩ = false)
   have hpost := fun (o : Obj) (w4 : World) (v : Value) (hg : ((w3.alloc o).drew).grownBy w4 (Value.slice tA S1.turns.length tc).ownBlock) hown hob => upd_turn (o := o) (w4 := w4) (v := v) h3 ⟨3, 0, s.data.toList, []⟩ (by rw [htv]; exact hg) hown (by rw [htv]; exact hob)
   simp only [turnCells, str_list] at hpost
   have HPO := Lib.hid hpost
   have HPR := Lib.hid hpre
   have htr := fun (w5 : World) (S5 : Sd) (h : Upd X w3 w5 S5) => Upd.after hc1 (Upd.trans rfl (hup0.trans (hc3'.mono (fun g hg => .inl (by rw [List.mem_singleton.1 hg]; exact mem_foot.2 (.inr (.inl rfl))) : ∀ g ∈ [X.nb], g ∈ X.foot ∨ _)) (fun g hg => .inl hg)) (fun g hg => .inl hg) h)
   have HTR := Lib.hid htr
   clear hpost hpre htr
   obtain ⟨i0, hi0, hz0, hz1, hz2⟩ := info_parts info_turn
   go_wp2
   go_region_law (refine step_appF rfl (.tmp 30) (.tmp 32) _ rfl 0 125 i0 _ 4 48 Tryz.underlying103 hi0 hz0 hz1 hz2 rfl (by omega) (Nat.zero_le _) (.slice tA S1.turns.length tc) S1.turns.length _ rfl (hrow4.alloc _).drew _ (some ⟨w3.heap.size, 0, none⟩) 1 1 (by omega) [.int .i64 3, .int .i64 0, .string s, .string ⟨#[]⟩] rfl (Row.new w3 #[.int .i64 3, .int .i64 0, .string s, .string ⟨#[]⟩] 125 (n := 1) (size := 4) rfl).drew (by simp [Value.oneCell']) (S1.turns.length + 1) _ rfl rfl (by unfold maxLen; omega) (by omega) ?_; intro A4 c4 w4 hown4 hg4 _ _ hob4; obtain ⟨q4, q5⟩ := HPR.out _ _ hg4; have HO := Lib.hid (HTR.out _ _ (HPO.out _ _ _ hg4 hown4 hob4)); clear hg4 hown4 hob4; simp only [Dw.cells, gE0, gE1] at q4)
   all_goals
    go_wp2
    go_ret
    exact ⟨rfl, HO.out⟩
 ·have hne := neq0 h0
  rw [if_pos h0] at hsy
  rw [hsy]
  clear hsy e1 e2 e3 e4 e5 h0 hld
  go_enter Tryz.func100, Tryz.ntmps100
  go_wp2_with fail
  refine hcall.mono ?_
  rintro e w1 ⟨rfl, h1, hc1⟩
  go_wp2
  go_ret
  exact ⟨rfl, Upd.called h1 hc1⟩
end
section
open Go Go.RowKit Go.Maps
theorem call2 (X : Dw) (S : Sd) (s u : ByteArray) (hs : s.size ≤ maxLen) (hu : u.size ≤ maxLen) (hw : S.Wf) (w : World) (h : DK w X S) :
  Calls Tryz.prog 157 #[.pointer (some ⟨X.d, 0, none⟩), .slice (some ⟨w.heap.size, 0, none⟩) 2 2] (w.alloc (.cells #[.string s, .string u] 9)) fun e w' => e = .returned (.int .i64 ((S.call [s.data.toList, u.data.toList]).2 : Int)) ∧ DK w' X (S.call [s.data.toList, u.data.toList]).1 ∧ Chg [X.d] w w' := by
 have hb : Below w.heap.size w (w.alloc (.cells #[.string s, .string u] 9)) := (Below.refl _ _).alloc (Nat.le_refl _) _
 refine (call_any X S (some ⟨w.heap.size, 0, none⟩) 2 2 [s, u] (by omega) (by simp; exact ⟨hs, hu⟩) hw.stop hw.fail _ (h.below hb) ?_).mono ?_
 ·exact (Row.new w #[.string s, .string u] 9 (n := 2) (size := 1) rfl).up (by simp)
 ·rintro e w' ⟨rfl, h1, h2⟩
  exact ⟨rfl, h1, (Chg.of_below hb [X.d]).trans h2 (fun g hg => .inl hg)⟩
theorem rename_any (X : Dw) (S : Sd) (s u : ByteArray) (hs : s.size ≤ maxLen) (hu : u.size ≤ maxLen) (hw : S.Wf) (hl : S.load ≤ 1099511627776) (w : World) (h : DK w X S) :
  Calls Tryz.prog 201 #[.pointer (some ⟨X.d, 0, none⟩), .string s, .string u] w fun e w' => e = .returned (.int .i64 ((S.rename s.data.toList u.data.toList).2 : Int)) ∧ Upd X w w' (S.rename s.data.toList u.data.toList).1 := by
 have hcall := call2 X S s u hs hu hw w h
 have hw1 := hw.call [s.data.toList, u.data.toList]
 have hld := Sd.call_load S [s.data.toList, u.data.toList]
 obtain ⟨e1, e2, e3, e4, e5, _, _⟩ := Sd.call_same S [s.data.toList, u.data.toList]
 have hsy : S.rename s.data.toList u.data.toList = if (S.call [s.data.toList, u.data.toList]).2 ≠ 0 then S.call [s.data.toList, u.data.toList] else if (S.names.get s.data.toList).isNone then ((S.call [s.data.toList, u.data.toList]).1, 11)
  else if s.data.toList = u.data.toList then ((S.call [s.data.toList, u.data.toList]).1, 0)
  else ({ (S.call [s.data.toList, u.data.toList]).1 with names := Tn.go ⟨2, 0, s.data.toList, u.data.toList⟩ S.names, turns := S.turns ++ [⟨2, 0, s.data.toList, u.data.toList⟩] }, 0) := rfl
 generalize S.call [s.data.toList, u.data.toList] = R at *
 obtain ⟨S1, er⟩ := R
 simp only at *
 by_cases h0 : er = 0
 ·subst h0
  rw [if_neg (by simp)] at hsy
  have hfd := fun w1 h1 => find_any X S1 s hs w1 h1 hw1.names
  cases h3 : S.names.get s.data.toList with
  | none =>
   simp only [h3, Option.isNone_none, if_true] at hsy
   rw [hsy]
   simp only [e1, h3] at hfd
   clear hsy h3 e1 e2 e3 e4 e5 hw1 hw h hld
   go_enter Tryz.func201, Tryz.ntmps201
   go_wp2_with fail
   refine hcall.mono ?_
   rintro e w1 ⟨rfl, h1, hc1⟩
   go_wp2_with fail
   refine (hfd w1 h1).mono ?_
   rintro e w2 ⟨rfl, rfl⟩
   go_wp2
   go_ret
   exact ⟨rfl, Upd.called h1 hc1⟩
  | some i =>
   simp only [h3, Option.isNone_some, Bool.false_eq_true, if_false] at hsy
   by_cases hab : s = u
   ·subst hab
    rw [if_pos rfl] at hsy
    rw [hsy]
    simp only [e1, h3] at hfd
    clear hsy h3 e1 e2 e3 e4 e5 hw1 hw h hld
    go_enter Tryz.func201, Tryz.ntmps201
    go_wp2_with fail
    refine hcall.mono ?_
    rintro e w1 ⟨rfl, h1, hc1⟩
    go_wp2_with fail
    refine (hfd w1 h1).mono ?_
    rintro e w2 ⟨rfl, rfl⟩
    unfold ptrV
    go_wp2
    go_ret
    exact ⟨rfl, Upd.called h1 hc1⟩
   have hab' : ¬s.data.toList = u.data.toList := fun e => hab (by rw [← str_list s, e, str_list])
   rw [if_neg hab'] at hsy
   have hbeq : (s.toList == u.toList) = false := by
    rw [ByteArray.toList_eq, ByteArray.toList_eq]
    simpa using hab'
   clear hab hab'
   rw [hsy, ← e1, ← e4]
   simp only [e1, h3] at hfd
   have hml : S1.turns.length + 1 ≤ 1099511627777 := by unfold Sd.load at hld hl; omega
   clear hsy h3 e1 e2 e3 e4 e5 hw h hld
   go_enter Tryz.func201, Tryz.ntmps201
   go_wp2_with fail
   refine hcall.mono ?_
   rintro e w1 ⟨rfl, h1, hc1⟩
   go_wp2_with fail
   refine (hfd w1 h1).mono ?_
   rintro e w2 ⟨rfl, rfl⟩
   unfold ptrV
   go_wp2
   have hbV : Below w1.heap.size w1 (w1.alloc (.cells #[.int .i64 2, .int .i64 0, .string s, .string u] 125)) := (Below.refl _ _).alloc (Nat.le_refl _) _
   have hbox := BoxO.new w1 #[.int .i64 2, .int .i64 0, .string s, .string u] 125
   have hlt : w1.heap.size < (w1.alloc (.cells #[.int .i64 2, .int .i64 0, .string s, .string u] 125)).heap.size := by simp
   have h2 := h1.below hbV
   have hup0 := Chg.of_below hbV X.foot
   generalize w1.alloc (.cells #[.int .i64 2, .int .i64 0, .string s, .string u] 125) = V at *
   have c0 := hbox.cell 0
   have c1 := hbox.cell 1
   have c2 := hbox.cell 2
   have c3 := hbox.cell 3
   have d2 := h2.box.cell 2
   simp only [Dw.cells, gE0, gE1] at c0 c1 c2 c3 d2
   have htb := h1.lt
   have hnamed := Lib.hid h2.names
   have hsm : S1.names.length < maxLen := by have := hw1.most; unfold maxLen; omega
   generalize w1.heap.size = tb at *
   go_still_tail 5, (by kernel_rfl)
   change wpList _ _ _ _ _ (World.drew V)
   go_wp2_with fail
   have hdo := do_any 2 0 s.data.toList u.data.toList (by simpa using hs) (by simpa using hu) (by omega) X.nb S1.names.length S1.names V.drew hnamed.out.drew hsm (by omega)
   simp only [turnV, str_list] at hdo
   refine hdo.mono ?_
   rintro e w3 ⟨rfl, hn3, hc3⟩
   have hc3' : Chg [X.nb] V w3 := (Chg.refl [X.nb] V).drew.trans hc3 (fun g hg => .inl hg)
   have h3 := h2.setNames hn3 hc3'
   have hbox3 := hbox.chg hc3' (by simp; have := htb X.nb (mem_foot.2 (.inr (.inl rfl))); omega)
   have c0 := hbox3.cell 0
   have c1 := hbox3.cell 1
   have c2 := hbox3.cell 2
   have c3 := hbox3.cell 3
   have d4 := h3.box.cell 4
   have f4 := h3.box.free 4
   have hxd := h3.box.lt
   obtain ⟨tA, tc, htv, _, _, _⟩ := own_form h3.turns
   simp only [Dw.cells, gE0, gE1] at c0 c1 c2 c3 d4
   rw [htv] at d4
   clear d2 hnamed hdo hn3
   have hrow4 := own_base h3.turns (Nat.zero_le _)
   rw [htv] at hrow4
   have hpre := fun (o : Obj) (w4 : World) (hg : ((w3.alloc o).drew).grownBy w4 (Value.slice tA S1.turns.length tc).ownBlock) => (⟨(grown_box h3 (by rw [htv]; exact hg)).cell 4, (grown_box h3 (by rw [htv]; exact hg)).free 4⟩ : w4.cell? ⟨X.d, 4, none⟩ = _ ∧ w4.frozen? ⟨X.d, 4, none⟩ = false)
   have hpost := fun (o : Obj) (w4 : World) (v : Value) (hg : ((w3.alloc o).drew).grownBy w4 (Value.slice tA S1.turns.length tc).ownBlock) hown hob => upd_turn (o := o) (w4 := w4) (v := v) h3 ⟨2, 0, s.data.toList, u.data.toList⟩ (by rw [htv]; exact hg) hown (by rw [htv]; exact hob)
   simp only [turnCells, str_list] at hpost
   have HPO := Lib.hid hpost
   have HPR := Lib.hid hpre
   have htr := fun (w5 : World) (S5 : Sd) (h : Upd X w3 w5 S5) => Upd.after hc1 (Upd.trans rfl (hup0.trans (hc3'.mono (fun g hg => .inl (by rw [List.mem_singleton.1 hg]; exact mem_foot.2 (.inr (.inl rfl))) : ∀ g ∈ [X.nb], g ∈ X.foot ∨ _)) (fun g hg => .inl hg)) (fun g hg => .inl hg) h)
   have HTR := Lib.hid htr
   clear hpost hpre htr
   obtain ⟨i0, hi0, hz0, hz1, hz2⟩ := info_parts info_turn
   go_wp2
   go_region_law (refine step_appF rfl (.tmp 39) (.tmp 41) _ rfl 0 125 i0 _ 4 48 Tryz.underlying103 hi0 hz0 hz1 hz2 rfl (by omega) (Nat.zero_le _) (.slice tA S1.turns.length tc) S1.turns.length _ rfl (hrow4.alloc _).drew _ (some ⟨w3.heap.size, 0, none⟩) 1 1 (by omega) [.int .i64 2, .int .i64 0, .string s, .string u] rfl (Row.new w3 #[.int .i64 2, .int .i64 0, .string s, .string u] 125 (n := 1) (size := 4) rfl).drew (by simp [Value.oneCell']) (S1.turns.length + 1) _ rfl rfl (by unfold maxLen; omega) (by omega) ?_; intro A4 c4 w4 hown4 hg4 _ _ hob4; obtain ⟨q4, q5⟩ := HPR.out _ _ hg4; have HO := Lib.hid (HTR.out _ _ (HPO.out _ _ _ hg4 hown4 hob4)); clear hg4 hown4 hob4; simp only [Dw.cells, gE0, gE1] at q4)
   all_goals
    go_wp2
    go_ret
    exact ⟨rfl, HO.out⟩
 ·have hne := neq0 h0
  rw [if_pos h0] at hsy
  rw [hsy]
  clear hsy e1 e2 e3 e4 e5 h0 hld
  go_enter Tryz.func201, Tryz.ntmps201
  go_wp2_with fail
  refine hcall.mono ?_
  rintro e w1 ⟨rfl, h1, hc1⟩
  go_wp2
  go_ret
  exact ⟨rfl, Upd.called h1 hc1⟩
end
section
open Go Go.RowKit Go.Maps
theorem info_pfile : (Tryz.prog.info? 120).map (fun i => (i.zero, i.size, i.bytes)) = some (some (.pointer none), 1, 8) := by kernel_rfl
theorem create_eq (S : Sd) (s : List UInt8) : S.create s = if (S.call [s]).2 ≠ 0 then S.call [s] else if (S.names.get s).isSome then ((S.call [s]).1, 12) else if 64 ≤ S.names.length then ((S.call [s]).1, 65)
  else ({ (S.call [s]).1 with names := S.names.put s S.files.length, turns := S.turns ++ [⟨1, S.files.length, s, []⟩], files := S.files ++ [([], 0)] }, 0) := rfl
def fileBox (w : World) : World := (w.alloc (.cells #[.slice none 0 0, .int .i64 0] 123)).alloc (.cells #[.pointer (some ⟨w.heap.size, 0, none⟩)] 120)
theorem fileBox_size (w : World) : (fileBox w).heap.size = w.heap.size + 2 := by simp [fileBox]
theorem fileBox_below (w : World) : Below w.heap.size w (fileBox w) := ((Below.refl _ _).alloc (Nat.le_refl _) _).alloc (by simp) _
theorem fileBox_grown {w w4 : World} {X : Dw} {S : Sd} (h : DK w X S) (hg : (fileBox w).grownBy w4 X.fv.ownBlock) : BoxO w4 105 X.d (X.cells S) :=
 (h.box.below (fileBox_below w)).chg (Chg.of_grown (F := X.fv.ownBlock.toList) hg (fun b e => by simp [e])) (fun hm => (h.apart.fv _ (by simpa using hm)).1 rfl)
theorem upd_file {w w4 : World} {X : Dw} {S : Sd} (h : DK w X S) {v : Value} (hg : (fileBox w).grownBy w4 X.fv.ownBlock) (hown : w4.ownsRow 0 120 1 v (S.files.length + 1) (X.ps.map ptrV ++ [.pointer (some ⟨w.heap.size, 0, none⟩)]))
  (hob : v.ownBlock = X.fv.ownBlock ∨ v.ownBlock = some (fileBox w).heap.size) : Upd X w (w4.setCell ⟨X.d, 1, none⟩ v) { S with files := S.files ++ [([], 0)] } := by
 have hbox := fileBox_grown h hg
 have ha := h.apart
 have hsz := fileBox_size w
 have hlt := h.lt
 have hvd : ∀ g, v.ownBlock = some g → g ≠ X.d ∧ g ≠ w.heap.size := fun g e => by
  rcases hob with h1 | h1
  ·have h2 := (ha.fv g (by rw [← h1, e])).1
   have h3 := hlt g (mem_foot.2 (.inr (.inr (.inr (.inl (by rw [← h1, e]))))))
   exact ⟨h2, by omega⟩
  ·rw [e] at h1
   injection h1 with h1
   have := h.box.lt
   exact ⟨by omega, by omega⟩
 have hc1 : Chg X.fv.ownBlock.toList w w4 := (Chg.of_below (fileBox_below w) _).trans (Chg.of_grown (F := X.fv.ownBlock.toList) hg (fun b e => by simp [e])) (fun g hg => .inl hg)
 have hc2 : Chg ([X.d] ++ X.fv.ownBlock.toList) w (w4.setCell ⟨X.d, 1, none⟩ v) := (hc1.mono (fun g hg => .inl (List.mem_append_right _ hg))).setCell v (.inl (by simp))
 have hv : ∀ g, v.ownBlock = some g → X.fv.ownBlock = some g ∨ w.heap.size ≤ g := fun g e => by
  rcases hob with h1 | h1
  ·exact .inl (by rw [← h1, e])
  ·rw [e] at h1
   injection h1 with h1
   exact .inr (by omega)
 have hfb0 : BoxO (w.alloc (.cells #[.slice none 0 0, .int .i64 0] 123)) 123 w.heap.size [.slice none 0 0, .int .i64 0] := BoxO.new _ _ _
 have hfb1 : BoxO (fileBox w) 123 w.heap.size [.slice none 0 0, .int .i64 0] := hfb0.alloc _
 have hfb : BoxO w4 123 w.heap.size [.slice none 0 0, .int .i64 0] := hfb1.chg (Chg.of_grown (F := X.fv.ownBlock.toList) hg (fun b e => by simp [e])) (fun hm => by
  have := hlt w.heap.size (mem_foot.2 (.inr (.inr (.inr (.inl (by simpa using hm))))))
  omega)
 have hdk := DK.addFile (w' := w4.setCell ⟨X.d, 1, none⟩ v) (fv := v) (b := w.heap.size) h (by
   have h1 := own_chg hown (chg_set w4 ⟨X.d, 1, none⟩ v) (fun g e hg => (hvd g e).1 (by simpa using hg))
   simpa [ptrV] using h1) (Nat.le_refl _) (fun e => (hvd _ e).2 rfl) (hfb.chg (chg_set w4 ⟨X.d, 1, none⟩ v) (fun hm => by
    have := h.box.lt
    simp at hm
    omega)) hc2 hv (by
   have h1 := hbox.store 1 v
   exact h1)
 refine ⟨{ X with fv := v, ps := X.ps ++ [(w.heap.size, Value.slice none 0 0)] }, rfl, hdk, hc2.mono (fun g hg => .inl ?_), fun g hg => ?_⟩
 ·rcases List.mem_append.1 hg with h1 | h1
  ·rw [List.mem_singleton.1 h1]; exact mem_foot.2 (.inl rfl)
  ·exact mem_foot.2 (.inr (.inr (.inr (.inl (by simpa using h1)))))
 ·rcases mem_foot.1 hg with h1 | h1 | h1 | h1 | h1 | ⟨p, hp, hgp⟩
  ·exact .inl (mem_foot.2 (.inl h1))
  ·exact .inl (mem_foot.2 (.inr (.inl h1)))
  ·exact .inl (mem_foot.2 (.inr (.inr (.inl h1))))
  ·rcases hv g h1 with h2 | h2
   ·exact .inl (mem_foot.2 (.inr (.inr (.inr (.inl h2)))))
   ·exact .inr h2
  ·exact .inl (mem_foot.2 (.inr (.inr (.inr (.inr (.inl h1))))))
  ·rcases List.mem_append.1 hp with hp | hp
   ·exact .inl (mem_foot.2 (.inr (.inr (.inr (.inr (.inr ⟨p, hp, hgp⟩))))))
   ·rw [List.mem_singleton.1 hp] at hgp
    simp [fileFoot, Value.ownBlock] at hgp
    exact .inr (by omega)
theorem create_any (X : Dw) (S : Sd) (s : ByteArray) (hs : s.size ≤ maxLen) (hw : S.Wf) (hl : S.load ≤ 1099511627776) (w : World) (h : DK w X S) :
  Calls Tryz.prog 172 #[.pointer (some ⟨X.d, 0, none⟩), .string s] w fun e w' => e = .returned (.int .i64 ((S.create s.data.toList).2 : Int)) ∧ Upd X w w' (S.create s.data.toList).1 := by
 have hcall := call1 X S s hs hw w h
 have hw1 := hw.call [s.data.toList]
 have hld := Sd.call_load S [s.data.toList]
 obtain ⟨e1, e2, e3, e4, e5, _, _⟩ := Sd.call_same S [s.data.toList]
 have hsy := create_eq S s.data.toList
 generalize S.call [s.data.toList] = R at *
 obtain ⟨S1, er⟩ := R
 simp only at *
 by_cases h0 : er = 0
 ·subst h0
  rw [if_neg (by simp)] at hsy
  have hfd := fun w1 h1 => find_any X S1 s hs w1 h1 hw1.names
  cases h3 : S.names.get s.data.toList with
  | some i =>
   simp only [h3, Option.isSome_some, if_true] at hsy
   rw [hsy]
   simp only [e1, h3] at hfd
   clear hsy h3 e1 e2 e3 e4 e5 hw1 hw h hld
   go_enter Tryz.func172, Tryz.ntmps172
   go_wp2_with fail
   refine hcall.mono ?_
   rintro e w1 ⟨rfl, h1, hc1⟩
   go_wp2_with fail
   refine (hfd w1 h1).mono ?_
   rintro e w2 ⟨rfl, rfl⟩
   unfold ptrV
   go_wp2
   go_ret
   exact ⟨rfl, Upd.called h1 hc1⟩
  | none =>
   simp only [h3, Option.isSome_none, Bool.false_eq_true, if_false] at hsy
   simp only [e1, h3] at hfd
   by_cases hm : 64 ≤ S.names.length
   ·rw [if_pos hm] at hsy
    rw [hsy]
    have hm1 : (64 : Int) ≤ (S1.names.length : Int) := by rw [e1]; omega
    clear hsy h3 e1 e2 e3 e4 e5 hw h hld hm
    go_enter Tryz.func172, Tryz.ntmps172
    go_wp2_with fail
    refine hcall.mono ?_
    rintro e w1 ⟨rfl, h1, hc1⟩
    go_wp2_with fail
    refine (hfd w1 h1).mono ?_
    rintro e w2 ⟨rfl, rfl⟩
    have d2 := h1.box.cell 2
    have hn := Lib.hid h1.names
    have hsz := Nm.enc_size S1.names
    simp only [Dw.cells, gE0, gE1] at d2
    go_wp2_with (at_len; refine wpList_len_own _ rfl _ 101 rfl 9 3 Tryz.underlying101 _ X.nb _ _ rfl hn.out ?_; rw [hsz])
    go_wp2
    go_ret
    exact ⟨rfl, Upd.called h1 hc1⟩
   ·rw [if_neg hm] at hsy
    have hm1 : (S1.names.length : Int) < 64 := by rw [e1]; omega
    have hm2 : S1.names.length < maxLen := by unfold maxLen; omega
    rw [hsy, ← e1, ← e4, ← e3]
    have hml : S1.turns.length + 1 ≤ 1099511627777 ∧ S1.files.length + 1 ≤ 1099511627777 := by unfold Sd.load at hld hl; omega
    obtain ⟨hml, hmf⟩ := hml
    clear hsy h3 e1 e2 e3 e4 e5 hw h hld hm
    have hkey := key_s hs
    have HP := Lib.hid (Nm.enc_put S1.names s.data.toList S1.files.length)
    have hwf : (Lit.int .i64 (S1.files.length : Int)).wf = true := WalkArith.wf_i64 (by omega)
    go_enter Tryz.func172, Tryz.ntmps172
    go_wp2_with fail
    refine hcall.mono ?_
    rintro e w1 ⟨rfl, h1, hc1⟩
    go_wp2_with fail
    refine (hfd w1 h1).mono ?_
    rintro e w2 ⟨rfl, rfl⟩
    have d2 := h1.box.cell 2
    have d1 := h1.box.cell 1
    have hn := Lib.hid h1.names
    have hsz := Nm.enc_size S1.names
    obtain ⟨fA, fc, hfv, _, _, _⟩ := own_form h1.files
    simp only [Dw.cells, gE0, gE1] at d2 d1
    rw [hfv] at d1
    go_wp2_with (at_len; refine wpList_len_own _ rfl _ 101 rfl 9 3 Tryz.underlying101 _ X.nb _ _ rfl hn.out ?_; rw [hsz])
    go_wp2
    go_still_tail 10, (by kernel_rfl)
    change wpList _ _ _ _ _ (World.drew w1)
    go_wp2_with (at_mapUpdate; refine wpList_mapUpdate_own _ rfl _ _ _ 101 rfl 9 3 law_s Tryz.underlying101 _ X.nb _ _ rfl hn.out.drew hm2 _ _ _ rfl rfl hkey _ [] (plainElem_int Tryz.underlying3 hwf) ?_; intro w3 hown3 hgrow3)
    rw [HP.out] at hown3
    have hc3 : Chg [X.nb] w1 w3 := (Chg.refl [X.nb] w1).drew.trans (Chg.of_grown (F := [X.nb]) hgrow3 (fun b hb => by cases hb; simp)) (fun g hg => .inl hg)
    have h3 := h1.setNames hown3 hc3
    clear hown3 hgrow3 HP hn d2 d1 hsz
    have d4 := h3.box.cell 4
    have d1 := h3.box.cell 1
    have hxd := h3.box.lt
    obtain ⟨tA, tc, htv, _, _, _⟩ := own_form h3.turns
    simp only [Dw.cells, gE0, gE1] at d4 d1
    rw [htv] at d4
    rw [hfv] at d1
    have hrow4 := own_base h3.turns (Nat.zero_le _)
    rw [htv] at hrow4
    have hpre := fun (o : Obj) (w4 : World) (hg : ((w3.alloc o).drew).grownBy w4 (Value.slice tA S1.turns.length tc).ownBlock) => (⟨(grown_box h3 (by rw [htv]; exact hg)).cell 4, (grown_box h3 (by rw [htv]; exact hg)).free 4⟩ : w4.cell? ⟨X.d, 4, none⟩ = _ ∧ w4.frozen? ⟨X.d, 4, none⟩ = false)
    have hpost := fun (o : Obj) (w4 : World) (v : Value) (hg : ((w3.alloc o).drew).grownBy w4 (Value.slice tA S1.turns.length tc).ownBlock) hown hob => upd_turnD (o := o) (w4 := w4) (v := v) h3 ⟨1, S1.files.length, s.data.toList, []⟩ (by rw [htv]; exact hg) hown (by rw [htv]; exact hob)
    simp only [turnCells, str_list] at hpost
    have HPO := Lib.hid hpost
    have HPR := Lib.hid hpre
    obtain ⟨i0, hi0, hz0, hz1, hz2⟩ := info_parts info_turn
    clear hpost hpre h1 htv
    go_wp2
    go_region_law (refine step_appF rfl (.tmp 39) (.tmp 47) _ rfl 0 125 i0 _ 4 48 Tryz.underlying103 hi0 hz0 hz1 hz2 rfl (by omega) (Nat.zero_le _) (.slice tA S1.turns.length tc) S1.turns.length _ rfl (hrow4.alloc _).drew _ (some ⟨w3.heap.size, 0, none⟩) 1 1 (by omega) [.int .i64 1, .int .i64 (S1.files.length : Int), .string s, .string ⟨#[]⟩] rfl (Row.new w3 #[.int .i64 1, .int .i64 (S1.files.length : Int), .string s, .string ⟨#[]⟩] 125 (n := 1) (size := 4) rfl).drew (by simp [Value.oneCell']) (S1.turns.length + 1) _ rfl rfl (by unfold maxLen; omega) (by omega) ?_; intro A4 c4 w4 hown4 hg4 _ _ hob4; obtain ⟨q4, q5⟩ := HPR.out _ _ hg4; have HO := Lib.hid (HPO.out _ _ _ hg4 hown4 hob4); clear hg4 hown4 hob4; simp only [Dw.cells, gE0, gE1] at q4)
    all_goals
     obtain ⟨h5, hc5, hf5⟩ := HO.out
     clear HO HPO HPR hrow4 d4 d1 q4 q5 h3 hxd
     generalize w4.setCell ⟨X.d, 4, none⟩ (.slice A4 (S1.turns.length + 1) c4) = w5 at *
     have d1 := h5.box.cell 1
     simp only [Dw.cells, gE0, gE1] at d1
     rw [hfv] at d1
     have hrow := h5.files
     have hpre := fun (w6 : World) (hg : (fileBox w5).grownBy w6 (Value.slice fA S1.files.length fc).ownBlock) => (⟨(fileBox_grown h5 (by simp only [hfv]; exact hg)).cell 1, (fileBox_grown h5 (by simp only [hfv]; exact hg)).free 1⟩ : w6.cell? ⟨X.d, 1, none⟩ = _ ∧ w6.frozen? ⟨X.d, 1, none⟩ = false)
     have hpost := fun (w6 : World) (v : Value) (hg : (fileBox w5).grownBy w6 (Value.slice fA S1.files.length fc).ownBlock) hown hob => upd_file (w4 := w6) (v := v) h5 (by simp only [hfv]; exact hg) hown (by simp only [hfv]; exact hob)
     simp only [hfv] at hrow
     have HPO := Lib.hid hpost
     have HPR := Lib.hid hpre
     have HRW := Lib.hid hrow
     clear hpost hpre hrow hfv
     obtain ⟨j0, hj0, hy0, hy1, hy2⟩ := info_parts info_pfile
     have HTR : ∀ w7 S7, Upd { X with tv := .slice A4 (S1.turns.length + 1) c4 } w5 w7 S7 → Upd X w w7 S7 := fun w7 S7 hu =>
      Upd.after hc1 (Upd.trans (X1 := { X with tv := .slice A4 (S1.turns.length + 1) c4 }) rfl ((hc3.mono (fun g hg => .inl (by rw [List.mem_singleton.1 hg]; exact mem_foot.2 (.inr (.inl rfl))))).trans hc5 (fun g hg => .inl hg)) (fun g hg => by
       rcases hf5 g hg with h1 | h1
       ·exact .inl h1
       ·exact .inr (Nat.le_trans hc3.size h1)) hu)
     have HT := Lib.hid HTR
     clear HTR hc1 hc3 hc5 hf5
     go_wp2_with (at_builtin; refine stop_in ?_)
     refine stop_out (wpList_appF rfl (.tmp 55) (.tmp 58) _ rfl 0 120 j0 _ 1 8 Tryz.underlying102 hj0 hy0 hy1 hy2 rfl (by omega) (fileBox w5) (Below.refl _ _) (Nat.zero_le _) (.slice fA S1.files.length fc) S1.files.length _ rfl (own_below HRW.out (fileBox_below w5)) (w5.heap.size + 2) (some ⟨w5.heap.size + 1, 0, none⟩) 1 1 (by omega) [.pointer (some ⟨w5.heap.size, 0, none⟩)] (by simp [Act.eval]) ?rw (by simp [Value.oneCell']) (S1.files.length + 1) _ rfl rfl (by unfold maxLen; omega) (by omega) ?_)
     case rw =>
      have h9 := Row.new (w5.alloc (.cells #[.slice none 0 0, .int .i64 0] 123)) #[.pointer (some ⟨w5.heap.size, 0, none⟩)] 120 (n := 1) (size := 1) rfl
      simpa using h9
     intro A6 c6 w6 hown6 _ hg6 _ _ hob6
     obtain ⟨q4, q5⟩ := HPR.out _ hg6
     have HO := Lib.hid (HT.out _ _ (HPO.out _ _ hg6 hown6 hob6))
     simp only [Dw.cells, gE0, gE1] at q4
     clear hg6 hown6 hob6 HT HPO HPR HRW
     go_wp2
     go_ret
     exact ⟨rfl, HO.out⟩
 ·have hne := neq0 h0
  rw [if_pos h0] at hsy
  rw [hsy]
  clear hsy e1 e2 e3 e4 e5 h0 hld
  go_enter Tryz.func172, Tryz.ntmps172
  go_wp2_with fail
  refine hcall.mono ?_
  rintro e w1 ⟨rfl, h1, hc1⟩
  go_wp2
  go_ret
  exact ⟨rfl, Upd.called h1 hc1⟩
end
section
open Go Go.RowKit
theorem run_appG {P : Program} (w : World) (base : Nat) (t ty e : TypeId) (i : TypeInfo) (z : Value) (size bytes : Nat) (ht : P.underlying t = some (.slice e)) (hi : P.info? e = some i) (hz : i.zero = some z)
  (hsize : i.size = size) (hby : i.bytes = bytes) (hzs : z.cells.size = size) (hsz : 0 < size) (v : Value) (n : Nat) (xs : List Value) (hown : w.ownsRow base e size v n xs)
  (B : Nat) (A : Option Addr) (m c : Nat) (news : List Value) (hr : Row B w A m size news) (h1 : ∀ u ∈ news, u.oneCell' = true)
  (h63 : n + m ≤ maxLen) (hbytes : (n + m) * bytes ≤ 140737488355328) (hbase : base ≤ w.heap.size) :
  ∃ A' c' w', (Builtin.append_ #[t, t] ty #[v, .slice A m c]).run P w = .ok (.slice A' (n + m) c') w' ∧ w'.ownsRow base e size (.slice A' (n + m) c') (n + m) (xs ++ news) ∧ w.grownBy w' v.ownBlock ∧ n + m ≤ c' ∧ c' ≤ maxLen ∧ ((Value.slice A' (n + m) c').ownBlock = v.ownBlock ∨ (Value.slice A' (n + m) c').ownBlock = some w.heap.size) := by
 rcases Nat.eq_zero_or_pos m with h0 | h0
 ·subst h0
  have hn : news = [] := List.eq_nil_of_length_eq_zero (by simpa using hr.len)
  subst hn
  obtain ⟨A', c', rfl, h5, h6, _⟩ := own_form hown
  rw [List.append_nil]
  refine ⟨A', c', w, ?_, hown, ⟨rfl, rfl, rfl, Nat.le_refl _, fun _ _ _ => rfl⟩, h5, h6, .inl rfl⟩
  rcases hown.2 with ⟨hv, rfl⟩ | ⟨g, cap, cur, hv, _, _, hnc, _⟩
  ·cases hv
   rcases A with _ | a <;> simp [Builtin.append_, run_underlying ht, sizeOf, typeInfo, hi, Builtin.lenOf, Builtin.firstCells, loadCells, loadCellsFrom]
  ·cases hv
   rcases A with _ | a <;> simp [Builtin.append_, run_underlying ht, sizeOf, typeInfo, hi, Builtin.lenOf, Builtin.firstCells, loadCells, loadCellsFrom, hnc, storeCells]
 ·have hpos : 0 < news.length := by
   rw [hr.len]
   exact Nat.mul_pos h0 hsz
  obtain ⟨a, rfl, _⟩ := hr.some_ hpos
  obtain ⟨v', w', h2, h3, h4, _, h6⟩ := run_append_own_at (P := P) (ty := ty) w base t e i z size bytes ht hi hz hsize hby hzs hsz v n xs hown a m c news hr.len hr.cells h1 h63 hbytes hbase
  obtain ⟨A', c', rfl, h5, h7, _⟩ := own_form h3
  exact ⟨A', c', w', h2, h3, h4, h5, h7, h6⟩
theorem wpList_appG {P : Program} {w : World} {ops : Array Oper} {rest : List Oper} {o : Oper} {a : Act} {Q : Exit → Act → World → Prop} (hgd : o.guard = none) (s x : Operand) (t : TypeId)
  (ho : o.op = .call { callee := .builtin .append, args := #[s, x], argTypes := #[t, t] })
  (base : Nat) (e : TypeId) (i : TypeInfo) (z : Value) (size bytes : Nat) (ht : P.underlying t = some (.slice e)) (hi : P.info? e = some i) (hz : i.zero = some z)
  (hsize : i.size = size) (hby : i.bytes = bytes) (hzs : z.cells.size = size) (hsz : 0 < size) (hbase : base ≤ w.heap.size) (v : Value) (n : Nat) (xs : List Value) (hs : a.eval s = v) (hown : w.ownsRow base e size v n xs)
  (B : Nat) (A : Option Addr) (m c : Nat) (news : List Value) (hx : a.eval x = .slice A m c) (hr : Row B w A m size news) (h1 : ∀ u ∈ news, u.oneCell' = true)
  (N : Nat) (X : List Value) (hN : n + m = N) (hX : xs ++ news = X) (h63 : N ≤ maxLen) (hbytes : N * bytes ≤ 140737488355328)
  (h : ∀ A' c' w', w'.ownsRow base e size (.slice A' N c') N X → w.grownBy w' v.ownBlock → N ≤ c' → c' ≤ maxLen → ((Value.slice A' N c').ownBlock = v.ownBlock ∨ (Value.slice A' N c').ownBlock = some w.heap.size) → wpList P ops Q rest (a.put o.dst (.slice A' N c')) w') : wpList P ops Q (o :: rest) a w := by
 subst hN
 subst hX
 obtain ⟨A', c', w', hrun, h3, h4, h5, h7, h6⟩ := run_appG (P := P) w base t o.type e i z size bytes ht hi hz hsize hby hzs hsz v n xs hown B A m c news hr h1 h63 hbytes hbase
 refine wpList_plain hgd fun _ hK => ?_
 unfold Oper.wp execOp
 simp only [ho, resolve, invoke, builtin, Sem.run_bind, Sem.run_pure, Result.andThen_ok, List.map_toArray, List.map_cons, List.map_nil, hs, hx, hrun]
 exact hK _ _ (h A' c' w' h3 h4 h5 h7 h6)
end
end Go.Proofs.YtdkjoigpahafmaaGreatDoor
