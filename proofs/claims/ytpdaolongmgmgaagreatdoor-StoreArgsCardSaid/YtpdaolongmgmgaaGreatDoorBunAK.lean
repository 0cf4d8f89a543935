/- Texts ItemL, PlainOne, Unlist, ItemM, ItemN in one. No conditions. -/
import Derived.Test.YtpdaolongmgmgaaGreatDoorBunAJ
import Derived.Test.YtpdaolongmgmgaaGreatDoorBunAG
import Derived.Test.YtpdaolongmgmgaaGreatDoorBunAC
import Derived.Test.YtpdaolongmgmgaaGreatDoorBunAA
import Derived.Deep.RegionHeld3
import Derived.Test.YtpdaolongmgmgaaGreatDoorBunAE
import Derived.Test.YtpdaolongmgmgaaGreatDoorBunAD

namespace Go.Proofs.YtpdaolongmgmgaaGreatDoor
open Go Go.RowKit Go.Lib
def It.ns (x : It) : List Nat := [x.t, x.v, sgn x.x]
theorem It.one_eq (x : It) : x.one = [UInt8.ofNat x.s.toNat, UInt8.ofNat x.k.toNat] ++ x.ns.flatMap Pn.put := by simp [It.one, It.ns]
theorem iown_apart {w : World} {base size n : Nat} {e : TypeId} {v : Value} {xs : List Value} (h : w.ownsRow base e size v n xs) {g : Nat} (hg : w.heap.size ≤ g) : some g ≠ v.ownBlock := by
 rcases h.2 with ⟨rfl, _⟩ | ⟨g', cap, cur, rfl, _, hh, _⟩
 ·intro e; cases e
 ·have : g' < w.heap.size := (Array.getElem?_eq_some_iff.1 hh).1
  intro e
  have e : g = g' := Option.some.inj e
  omega
theorem BoxO.igrown {w w' : World} {e : TypeId} {g : Nat} {xs : List Value} {r : Option Nat} (h : BoxO w e g xs) (hg : w.grownBy w' r) (hne : some g ≠ r) : BoxO w' e g xs := (hg.block g h.lt hne).trans h
theorem one_take {l : List It} {k : Nat} (h : k < l.length) : (l.take (k + 1)).flatMap It.one = (l.take k).flatMap It.one ++ l[k].one := by
 rw [List.take_succ_eq_append_getElem h, List.flatMap_append]
 simp
set_option maxRecDepth 100000 in
set_option maxHeartbeats 4000000 in
theorem ibytes_any (A : Option Addr) (N c : Nat) (b : List UInt8) (L : Option Addr) (m d : Nat) (l : List It) (w : World) (hN : N ≤ 1000000) (hm : m ≤ 2000) (hr : Row w.heap.size w A N 1 (bts b)) (hq : Row w.heap.size w L m 5 (itc l)) (hk : ∀ x ∈ l, x.ok = true ∧ x.fit) :
  Calls Tryz.prog 215 #[.slice A N c, .slice L m d] w fun e w' => ∃ A' M c', e = .returned (.tuple #[.slice A' M c', .int .i64 0]) ∧
   w'.ownsRow w.heap.size 5 1 (.slice A' M c') M (bts (b ++ It.bytes l)) ∧ M ≤ c' ∧ c' ≤ maxLen ∧ Below w.heap.size w w' := by
 obtain ⟨i0, hi0, hz0, hz1, hz2⟩ := info_parts info_u8
 have hln := hr.btlen
 have hmn := hq.itlen
 have hcv : ∀ w, (convert 3 39 (.int .i64 (m : Int))).run Tryz.prog w = .ok (.int .u64 (m : Int)) w := by
  intro w
  have : (m : Int) % 18446744073709551616 = (m : Int) := by omega
  simp [go_sem, convert, IntKind.wrap_u64, this]
 have hal := iall_any L m d l w (by omega) hq
 rw [show l.all It.ok = true from List.all_eq_true.2 fun x hx => (hk x hx).1] at hal
 have hm2 : ((2000 : Int) < (m : Int)) = False := eq_false (by omega)
 have HAL := Lib.hid hal
 have HK := Lib.hid hk
 clear hal hk
 go_enter Tryz.func215, Tryz.ntmps215
 go_wp2_with fail
 refine HAL.out.mono ?_
 rintro e w0 ⟨rfl, hb0⟩
 have hp := put_any A N c b m (by omega) w0 (by omega) ((hr.below hb0).up hb0.size)
 have hq0 := (hq.below hb0).up hb0.size
 have HP := Lib.hid hp
 clear hp HAL
 go_wp2_with fail
 refine HP.out.mono ?_
 rintro e w1 ⟨A1, c1, rfl, ho1, hc1, hm1, hb1⟩
 obtain ⟨M1, hM1⟩ : ∃ M1, M1 = N + (Pn.put m).length := ⟨_, rfl⟩
 have hM1b : M1 ≤ N + 10 := by have := (Pn.put_len m).2; omega
 rw [← hM1] at ho1 hc1 ⊢
 have hq1 := (hq0.below hb1).up hb1.size
 have hb01 := later_ hb0 hb1
 have HO1 := Lib.hid ho1
 have HB01 := Lib.hid hb01
 have HS0 := Lib.hid hb0.size
 clear ho1 hb01 hb1 hb0 hr hq hq0 HP hM1
 go_wp2
 go_loopw [7, 25] (fun o i wr => ∃ (k q : Nat) (A2 : Option Addr) (c2 : Nat), k ≤ m ∧ o = .slice A2 q c2 ∧ i = .int .i64 (k : Int) ∧ Hid (q ≤ 32 * k ∧ wr.ownsRow w1.heap.size 5 1 (.slice A2 q c2) q (bts ((l.take k).flatMap It.one))) ∧ Below w1.heap.size w1 wr) (fun _ i _ => m - (intOf i).toNat)
 case atStart => exact ⟨0, 0, none, 0, Nat.zero_le _, rfl, rfl, Lib.hid ⟨by omega, World.ownsRow_nil _ _ _ _⟩, Below.refl _ _⟩
 case round =>
  obtain ⟨k, q, A2, c2, hkm, rfl, rfl, HQ, hbl⟩ := hrel
  by_cases hlt : k < m
  ·obtain ⟨p, hl, rfl, hbk, d0, d1, d2, d3, d4⟩ := (hq1.below hbl).it hlt
   have hki : (k : Int) < (m : Int) := by omega
   have hwk : IntKind.i64.wrap (k : Int) = (k : Int) := IntWalk.i64_in _ (by omega)
   obtain ⟨hxk, hxf⟩ := HK.out _ (List.getElem_mem hl)
   have hot := one_take hl
   have hq32 := HQ.out.1
   generalize l[k] = x at *
   rw [It.ok_iff] at hxk
   have e1 := iu8_of (x := x.s) (by omega) (by omega)
   have e2 := iu8_of (x := x.k) (by omega) (by omega)
   rw [It.one_eq] at hot
   generalize UInt8.ofNat x.s.toNat = u1 at *
   generalize UInt8.ofNat x.k.toNat = u2 at *
   have hU := (Below.refl wr.heap.size wr).alloc (Nat.le_refl _) (.cells #[.int .i64 x.s, .int .i64 x.k, .int .u64 (x.t : Int), .int .u64 (x.v : Int), .int .i64 x.x] 41)
   have hbx : BoxO (wr.alloc (.cells #[.int .i64 x.s, .int .i64 x.k, .int .u64 (x.t : Int), .int .u64 (x.v : Int), .int .i64 x.x] 41)) 41 wr.heap.size x.cells := BoxO.new wr #[.int .i64 x.s, .int .i64 x.k, .int .u64 (x.t : Int), .int .u64 (x.v : Int), .int .i64 x.x] 41
   obtain ⟨U, hUe⟩ : ∃ U, U = wr.alloc (.cells #[.int .i64 x.s, .int .i64 x.k, .int .u64 (x.t : Int), .int .u64 (x.v : Int), .int .i64 x.x] 41) := ⟨_, rfl⟩
   rw [← hUe] at hU hbx
   have hrow : Row (U.alloc (.cells #[.int .u8 (u1.toNat : Int), .int .u8 (u2.toNat : Int)] 5)).heap.size (U.alloc (.cells #[.int .u8 (u1.toNat : Int), .int .u8 (u2.toNat : Int)] 5)) (some ⟨U.heap.size, 0, none⟩) 2 1 (bts [u1, u2]) := by
    have := Row.new U #[.int .u8 (u1.toNat : Int), .int .u8 (u2.toNat : Int)] 5 (n := 2) (size := 1) rfl
    simpa [bts] using this
   have b0 := hbx.cell 0
   have b1 := hbx.cell 1
   simp only [It.cells, List.getElem?_cons_zero, List.getElem?_cons_succ] at b0 b1
   have hbU := later_ hbl hU
   have hoU := own_below HQ.out.2 hU
   have hbV := hbU.alloc hbU.size (.cells #[.int .u8 (u1.toNat : Int), .int .u8 (u2.toNat : Int)] 5)
   have hoV := hoU.alloc (.cells #[.int .u8 (u1.toNat : Int), .int .u8 (u2.toNat : Int)] 5)
   have hbxV := hbx.alloc (.cells #[.int .u8 (u1.toNat : Int), .int .u8 (u2.toNat : Int)] 5)
   have HROW := Lib.hid hrow
   have HBV := Lib.hid hbV
   have HOV := Lib.hid hoV
   have HBXV := Lib.hid hbxV
   have HOT := Lib.hid hot
   have HXK := Lib.hid hxk
   have HXF := Lib.hid hxf
   have hUs := hUe.symm
   have hsz : wr.heap.size + 1 = U.heap.size := by rw [hUe]; simp
   clear hrow hbV hoV hbxV hot hxk hxf hU hbx hbU hoU hUe
   go_wp2_with (at_builtin; refine stop_in ?_)
   refine stop_out (wpList_app rfl (.tmp 29) (.tmp 36) _ rfl w1.heap.size 5 i0 _ 1 1 Tryz.underlying22 hi0 hz0 hz1 hz2 rfl (by omega) w1 HBV.out HBV.out.size _ q _ rfl HOV.out _ _ 2 2 (bts [u1, u2]) rfl HROW.out (bts_one _) (q + 2) _ rfl rfl (by unfold maxLen; omega) (by omega) ?_)
   intro A3 c3 w3 hown3 hb3 hg3 hc3 hm3
   have hbx3 := HBXV.out.igrown hg3 (iown_apart HQ.out.2 (Nat.le_refl _))
   have hkz : ∀ w', Below w3.heap.size w3 w' → w'.cell? ⟨wr.heap.size, 2, none⟩ = some (.int .u64 (x.t : Int)) ∧ w'.cell? ⟨wr.heap.size, 3, none⟩ = some (.int .u64 (x.v : Int)) ∧ w'.cell? ⟨wr.heap.size, 4, none⟩ = some (.int .i64 x.x) := fun w' h => by
    have e := hbx3.below h
    exact ⟨e.cell 2, e.cell 3, e.cell 4⟩
   have KZ := Lib.hid hkz
   have d0 := hbx3.cell 2
   have d1 := hbx3.cell 3
   have d2 := hbx3.cell 4
   simp only [It.cells, List.getElem?_cons_zero, List.getElem?_cons_succ] at d0 d1 d2
   have hsg := fun W => sign_any x.x HXF.out.1 HXF.out.2 W
   have HSG := Lib.hid hsg
   have HO3 := Lib.hid hown3
   have HB3 := Lib.hid hb3
   have hns : x.ns = [x.t, x.v, sgn x.x] := rfl
   have hn64 : ∀ n ∈ x.ns, n < 18446744073709551616 := by
    have h1 := HXK.out
    have h2 := sgn_lt HXF.out.1 HXF.out.2
    rw [hns]
    intro n hn
    simp only [List.mem_cons, List.not_mem_nil, or_false] at hn
    rcases hn with rfl | rfl | rfl <;> omega
   obtain ⟨sg, hsgn⟩ : ∃ sg, sg = sgn x.x := ⟨_, rfl⟩
   rw [← hsgn] at hns
   have HNS := Lib.hid hns
   have HN64 := Lib.hid hn64
   have HSGN := Lib.hid hsgn
   clear hsg hown3 hb3 hbx3 hns hn64 hsgn hg3 HBV HOV HBXV HROW e1 e2 b0 b1 hUs
   go_wp2_with fail
   clear d0 d1 d2 hkz
   refine wp_region_held_drew (S := fun w' => Below w3.heap.size w3 w') rfl (below_drew (Below.refl _ _)) (fun hSw => ?_)
   refine wpAnyH_take (i := 0) (v := ?vsg0) rfl (by kernel_rfl) (by kernel_rfl) (by kernel_rfl) (fun _ _ _ h => h) (Or.inl ⟨by rfl, ?hsg0⟩) hSw ?ksg0
   case hsg0 => (intro w hSw; (obtain ⟨d0, d1, d2⟩ := KZ.out w hSw); go_simp; try (with_reducible rfl))
   go_simp
   refine wpAnyH_take (i := 1) (v := ?vsg1) rfl (by kernel_rfl) (by kernel_rfl) (by kernel_rfl) (fun _ _ _ h => h) (Or.inl ⟨by rfl, ?hsg1⟩) hSw ?ksg1
   case hsg1 => (intro w hSw; (obtain ⟨d0, d1, d2⟩ := KZ.out w hSw); go_simp; try (with_reducible rfl))
   go_simp
   refine wpAnyH_take (i := 2) (v := ?vsg2) rfl (by kernel_rfl) (by kernel_rfl) (by kernel_rfl) (fun _ _ _ h => h) (Or.inl ⟨by rfl, ?hsg2⟩) hSw ?ksg2
   case hsg2 => (intro w hSw; (obtain ⟨d0, d1, d2⟩ := KZ.out w hSw); go_simp; try (with_reducible rfl))
   go_simp
   refine wpAnyH_take (i := 3) (v := ?vsg3) rfl (by kernel_rfl) (by kernel_rfl) (by kernel_rfl) (fun _ _ _ h => h) (Or.inl ⟨by rfl, ?hsg3⟩) hSw ?ksg3
   case hsg3 => (intro w hSw; (obtain ⟨d0, d1, d2⟩ := KZ.out w hSw); go_simp; try (with_reducible rfl))
   go_simp
   refine wpAnyH_take (i := 4) (v := ?vsg4) rfl (by kernel_rfl) (by kernel_rfl) (by kernel_rfl) (fun _ _ _ h => h) (Or.inl ⟨by rfl, ?hsg4⟩) hSw ?ksg4
   case hsg4 => (intro w hSw; (obtain ⟨d0, d1, d2⟩ := KZ.out w hSw); go_simp; try (with_reducible rfl))
   go_simp
   refine wpAnyH_take (i := 5) (v := ?vsg5) rfl (by kernel_rfl) (by kernel_rfl) (by kernel_rfl) (fun _ _ _ h => h) (Or.inl ⟨by rfl, ?hsg5⟩) hSw ?ksg5
   case hsg5 => (intro w hSw; (obtain ⟨d0, d1, d2⟩ := KZ.out w hSw); go_simp; try (with_reducible rfl))
   go_simp
   refine wpAnyH_take (i := 9) (v := ?vsg9) rfl (by kernel_rfl) (by kernel_rfl) (by kernel_rfl) (fun _ _ _ h => h) (Or.inl ⟨by rfl, ?hsg9⟩) hSw ?ksg9
   case hsg9 => (intro w hSw; (obtain ⟨d0, d1, d2⟩ := KZ.out w hSw); go_simp; try (with_reducible rfl))
   go_simp
   refine wpAnyH_ready (rs := [6]) (by kernel_rfl) (by simp) ?_
   refine AllReadyH.cons rfl (fun K hK => ?_) AllReadyH.nil
   go_simp
   with_reducible refine (HSG.out _).mono ?_
   rintro e w7 ⟨rfl, rfl⟩
   go_simp
   refine hK.out _ _ hSw (fun hSn => ?_)
   clear hK K hSw
   have hSw := hSn
   clear hSn
   go_simp
   refine wpAnyH_ready (rs := [7]) (by kernel_rfl) (by simp) ?_
   refine AllReadyH.cons rfl (fun K hK => ?_) AllReadyH.nil
   skip
   go_simp
   refine hK.out _ _ (hSw.alloc hSw.size _) (fun hSn => ?_)
   clear hK K hSw
   have hSw := hSn
   clear hSn
   go_simp
   refine wpAnyH_take (i := 8) (v := ?vsg8) rfl (by kernel_rfl) (by kernel_rfl) (by kernel_rfl) (fun _ _ _ h => h) (Or.inl ⟨by rfl, ?hsg8⟩) hSw ?ksg8
   case hsg8 => (intro w hSw; (obtain ⟨d0, d1, d2⟩ := KZ.out w hSw); go_simp; try (with_reducible rfl))
   go_simp
   refine wpAnyH_done (by kernel_rfl) ?_ _
   have hsv := hSw
   clear hSw KZ HSG d0 d1 d2 d3 d4
   have hog : some w3.heap.size ≠ (Value.slice A3 (q + 2) c3).ownBlock := iown_apart HO3.out (Nat.le_refl _)
   have hoW := own_below HO3.out hsv
   have hbxW : BoxO (w3.alloc (.cells #[.int .u64 (x.t : Int), .int .u64 (x.v : Int), .int .u64 (sgn x.x : Int)] 39)).drew 39 w3.heap.size (u64v x.ns) := by
    have := (BoxO.new w3 #[.int .u64 (x.t : Int), .int .u64 (x.v : Int), .int .u64 (sgn x.x : Int)] 39).drew
    rw [HNS.out, HSGN.out]
    exact this
   have hb13 := HB3.out.trans (hsv.mono HB3.out.size)
   obtain ⟨g, hg⟩ : ∃ g, g = w3.heap.size := ⟨_, rfl⟩
   rw [← hg] at hog hbxW
   obtain ⟨W, hW⟩ : ∃ W, W = (w3.alloc (.cells #[.int .u64 (x.t : Int), .int .u64 (x.v : Int), .int .u64 (sgn x.x : Int)] 39)).drew := ⟨_, rfl⟩
   rw [← hW] at hoW hbxW hb13 hsv ⊢
   have H0 := Lib.hid (And.intro hoW (And.intro hbxW hb13))
   have HOG := Lib.hid hog
   have hgs := hg.symm
   clear hoW hbxW hb13 hog hW HO3 HB3 hsv hg
   rw [hgs]
   go_wp2_with fail
   go_loopw [7, 47] (fun o i wq => ∃ (j q2 : Nat) (A4 : Option Addr) (c4 : Nat), j ≤ 3 ∧ o = .slice A4 q2 c4 ∧ i = .int .i64 (j : Int) ∧ Hid (q2 ≤ q + 2 + 10 * j ∧ wq.ownsRow w1.heap.size 5 1 (.slice A4 q2 c4) q2 (bts ((l.take k).flatMap It.one ++ ([u1, u2] ++ (x.ns.take j).flatMap Pn.put))) ∧ some g ≠ (Value.slice A4 q2 c4).ownBlock ∧ BoxO wq 39 g (u64v x.ns)) ∧ Below w1.heap.size w1 wq) (fun _ i _ => 3 - (intOf i).toNat)
   case atStart => exact ⟨0, q + 2, A3, c3, by omega, rfl, rfl, Lib.hid ⟨by omega, by have := H0.out.1; simpa [bts] using this, HOG.out, H0.out.2.1⟩, H0.out.2.2⟩
   case round =>
    obtain ⟨j, q2, A4, c4, hj3, rfl, rfl, HJ, hbq⟩ := hrel
    have hxl : x.ns.length = 3 := rfl
    by_cases hjl : j < 3
    ·have hji : (j : Int) < 3 := by omega
     have hwj : IntKind.i64.wrap (j : Int) = (j : Int) := IntWalk.i64_in _ (by omega)
     have hcg := HJ.out.2.2.2.cell j
     rw [u64v_get, List.getElem?_eq_getElem (by omega)] at hcg
     have hn64 := HN64.out _ (List.getElem_mem (show j < x.ns.length by omega))
     have htk : x.ns.take (j + 1) = x.ns.take j ++ [x.ns[j]] := List.take_succ_eq_append_getElem (by omega)
     generalize x.ns[j] = n at *
     simp only [Option.map_some] at hcg
     have hpn := fun W => put_any none 0 0 [] n hn64 W (by omega) Row.nil_
     have hpl := Pn.put_len n
     simp only [Nat.zero_add, List.nil_append] at hpn
     have HPN := Lib.hid hpn
     have HTK := Lib.hid htk
     clear hpn htk
     go_wp2_with fail
     refine (HPN.out _).mono ?_
     rintro e w7 ⟨A5, c5, rfl, ho5, h51, h52, hb5⟩
     have hr5 := Row.own ho5
     have ho4 := own_below HJ.out.2.1 hb5
     have hbx5 := HJ.out.2.2.2.below hb5
     have hbq5 := hbq.trans (hb5.mono hbq.size)
     have hg7 := hbx5.lt
     generalize hpln : (Pn.put n).length = pl at *
     have hq2 := HJ.out.1
     have HR5 := Lib.hid hr5
     have HO4 := Lib.hid ho4
     have HBX5 := Lib.hid hbx5
     have HBQ5 := Lib.hid hbq5
     clear ho5 hr5 ho4 hbx5 hbq5 HPN hb5
     go_wp2_with (at_builtin; refine stop_in ?_)
     refine stop_out (wpList_appF rfl (.tmp 51) (.tmp 53) _ rfl w1.heap.size 5 i0 _ 1 1 Tryz.underlying22 hi0 hz0 hz1 hz2 rfl (by omega) w1 HBQ5.out HBQ5.out.size _ q2 _ rfl HO4.out _ _ pl c5 (by omega) (bts (Pn.put n)) rfl HR5.out (bts_one _) (q2 + pl) (bts ((l.take k).flatMap It.one ++ ([u1, u2] ++ (x.ns.take (j + 1)).flatMap Pn.put))) rfl (by rw [HTK.out]; simp [bts]) (by unfold maxLen; omega) (by omega) ?_)
     intro A6 c6 w8 z1 z2 z3 z4 z5 z6
     have hng : some g ≠ (Value.slice A6 (q2 + pl) c6).ownBlock := by
      rcases z6 with z6 | z6
      ·rw [z6]; exact HJ.out.2.2.1
      ·rw [z6]
       intro e
       have e := Option.some.inj e
       omega
     have HF := Lib.hid (And.intro (show q2 + pl ≤ q + 2 + 10 * (j + 1) by omega) (And.intro z1 (And.intro hng (HBX5.out.igrown z3 HJ.out.2.2.1))))
     clear z1 z3 z6 hng HR5 HO4 HBX5 HBQ5 hcg
     go_wp2
     go_roundw
     case rel => exact ⟨j + 1, q2 + pl, A6, c6, by omega, rfl, by go_num, HF, z2⟩
     case measure => simp [intOf]; omega
    ·have hji : ((j : Int) < 3) = False := eq_false (by omega)
     have hj : j = 3 := by omega
     have htk : x.ns.take j = x.ns := List.take_of_length_le (by omega)
     have ho := HJ.out.2.1
     rw [htk, ← HOT.out] at ho
     have HF := Lib.hid (And.intro (show q2 ≤ 32 * (k + 1) by have := HJ.out.1; omega) ho)
     clear ho htk
     go_wp2
     go_roundw
     case rel => exact ⟨k + 1, q2, A4, c4, by omega, rfl, by go_num, HF, hbq⟩
     case measure => simp [intOf]; omega
  ·have hki : ((k : Int) < (m : Int)) = False := eq_false (by omega)
   have hall : l.take k = l := List.take_of_length_le (by omega)
   have hq := HQ.out
   rw [hall] at hq
   have hro := Row.own hq.2
   have hoo := own_base (own_below HO1.out hbl) HS0.out
   have hbz := HB01.out.trans (hbl.mono HB01.out.size)
   have hqb := hq.1
   have HRO := Lib.hid hro
   have HOO := Lib.hid hoo
   have HBZ := Lib.hid hbz
   clear hq hro hoo hbz hall
   go_wp2_with (at_builtin; refine stop_in ?_)
   refine stop_out (wpList_app rfl (.tmp 57) (.tmp 58) _ rfl w.heap.size 5 i0 _ 1 1 Tryz.underlying22 hi0 hz0 hz1 hz2 rfl (by omega) w HBZ.out HBZ.out.size _ M1 _ rfl HOO.out _ _ q c2 _ rfl HRO.out (bts_one _) (M1 + q) (bts (b ++ It.bytes l)) rfl (by simp [It.bytes, bts, hmn]) (by unfold maxLen; omega) (by omega) ?_)
   intro A6 c6 w8 z1 z2 z3 z4 z5
   have HF := Lib.hid z1
   clear z1 z3 HRO HOO HBZ HQ
   go_wp2
   go_ret2
   exact ⟨A6, _, c6, rfl, HF.out, z4, z5, z2⟩
end Go.Proofs.YtpdaolongmgmgaaGreatDoor
namespace Go.Proofs.YtpdaolongmgmgaaGreatDoor
namespace It
def tks : Nat → List UInt8 → Option (List Nat × List UInt8)
 | 0, b => some ([], b)
 | k + 1, b => match tks k b with
  | none => none
  | some (ns, r) => if (Pn.take r).2.2 = 0 then some (ns ++ [(Pn.take r).1], r.drop (Pn.take r).2.1) else none
def zero_ : It := ⟨0, 0, 0, 0, 0⟩
theorem take1_eq (b : List UInt8) : take1 b = if b.length < 2 then (zero_, [], 4) else
  if (Pn.take (b.drop 2)).2.2 = 0 then
   if (Pn.take ((b.drop 2).drop (Pn.take (b.drop 2)).2.1)).2.2 = 0 then
    if (Pn.take (((b.drop 2).drop (Pn.take (b.drop 2)).2.1).drop (Pn.take ((b.drop 2).drop (Pn.take (b.drop 2)).2.1)).2.1)).2.2 = 0 then
     (⟨Fr.u b 0, Fr.u b 1, (Pn.take (b.drop 2)).1, (Pn.take ((b.drop 2).drop (Pn.take (b.drop 2)).2.1)).1, unsgn (Pn.take (((b.drop 2).drop (Pn.take (b.drop 2)).2.1).drop (Pn.take ((b.drop 2).drop (Pn.take (b.drop 2)).2.1)).2.1)).1⟩,
      (((b.drop 2).drop (Pn.take (b.drop 2)).2.1).drop (Pn.take ((b.drop 2).drop (Pn.take (b.drop 2)).2.1)).2.1).drop (Pn.take (((b.drop 2).drop (Pn.take (b.drop 2)).2.1).drop (Pn.take ((b.drop 2).drop (Pn.take (b.drop 2)).2.1)).2.1)).2.1, 0)
    else (zero_, [], (Pn.take (((b.drop 2).drop (Pn.take (b.drop 2)).2.1).drop (Pn.take ((b.drop 2).drop (Pn.take (b.drop 2)).2.1)).2.1)).2.2)
   else (zero_, [], (Pn.take ((b.drop 2).drop (Pn.take (b.drop 2)).2.1)).2.2)
  else (zero_, [], (Pn.take (b.drop 2)).2.2) := by
 unfold take1
 split
 ·rfl
 ·generalize b.drop 2 = r1
  generalize hp : Pn.take r1 = p
  obtain ⟨t, n1, e1⟩ := p
  match e1 with
  | e + 1 => rfl
  | 0 =>
   simp only [if_true]
   generalize r1.drop n1 = r2
   generalize hp2 : Pn.take r2 = p2
   obtain ⟨v, n2, e2⟩ := p2
   match e2 with
   | e + 1 => rfl
   | 0 =>
    simp only [if_true]
    generalize r2.drop n2 = r3
    generalize hp3 : Pn.take r3 = p3
    obtain ⟨x, n3, e3⟩ := p3
    match e3 with
    | e + 1 => rfl
    | 0 => rfl
variable {b r : List UInt8} {ns : List Nat} {k : Nat}
theorem tks_len : ∀ {k : Nat} {ns : List Nat} {r : List UInt8}, tks k b = some (ns, r) → ns.length = k
 | 0, ns, r, h => by
  simp only [tks, Option.some.injEq, Prod.mk.injEq] at h
  rw [← h.1]
  rfl
 | k + 1, ns, r, h => by
  unfold tks at h
  split at h
  ·cases h
  ·rename_i ms q hq
   split at h
   ·simp only [Option.some.injEq, Prod.mk.injEq] at h
    rw [← h.1, List.length_append, tks_len hq]
    rfl
   ·cases h
theorem tks_succ (h : tks k b = some (ns, r)) (he : (Pn.take r).2.2 = 0) : tks (k + 1) b = some (ns ++ [(Pn.take r).1], r.drop (Pn.take r).2.1) := by
 unfold tks
 rw [h]
 simp only
 rw [if_pos he]
theorem tks_prev {n : Nat} {q : List UInt8} (h : tks (k + 1) b = some (ns, r)) : ∃ ms q, tks k b = some (ms, q) ∧ (Pn.take q).2.2 = 0 ∧ ns = ms ++ [(Pn.take q).1] ∧ r = q.drop (Pn.take q).2.1 := by
 unfold tks at h
 split at h
 ·cases h
 ·rename_i ms q hq
  split at h
  ·rename_i he
   simp only [Option.some.injEq, Prod.mk.injEq] at h
   exact ⟨ms, q, hq, he, h.1.symm, h.2.symm⟩
  ·cases h
theorem tks_zero (h : tks 0 b = some (ns, r)) : ns = [] ∧ r = b := by
 simp only [tks, Option.some.injEq, Prod.mk.injEq] at h
 exact ⟨h.1.symm, h.2.symm⟩
theorem take1_bad (h2 : ¬ b.length < 2) (hk : k < 3) (h : tks k (b.drop 2) = some (ns, r)) (he : (Pn.take r).2.2 ≠ 0) : take1 b = (zero_, [], (Pn.take r).2.2) := by
 rw [take1_eq, if_neg h2]
 have e : k = 0 ∨ k = 1 ∨ k = 2 := by omega
 rcases e with rfl | rfl | rfl
 ·obtain ⟨_, rfl⟩ := tks_zero h
  rw [if_neg he]
 ·obtain ⟨ms, q, h1, e1, _, rfl⟩ := tks_prev (n := 0) (q := []) h
  obtain ⟨_, rfl⟩ := tks_zero h1
  rw [if_pos e1, if_neg he]
 ·obtain ⟨ms, q, h1, e1, _, rfl⟩ := tks_prev (n := 0) (q := []) h
  obtain ⟨ms, q, h3, e3, _, rfl⟩ := tks_prev (n := 0) (q := []) h1
  obtain ⟨_, rfl⟩ := tks_zero h3
  rw [if_pos e3, if_pos e1, if_neg he]
theorem take1_good (h2 : ¬ b.length < 2) (h : tks 3 (b.drop 2) = some (ns, r)) : take1 b = (⟨Fr.u b 0, Fr.u b 1, ns.getD 0 0, ns.getD 1 0, unsgn (ns.getD 2 0)⟩, r, 0) := by
 rw [take1_eq, if_neg h2]
 obtain ⟨ms, q, h1, e1, rfl, rfl⟩ := tks_prev (n := 0) (q := []) h
 obtain ⟨ms, q, h3, e3, rfl, rfl⟩ := tks_prev (n := 0) (q := []) h1
 obtain ⟨ms, q, h4, e4, rfl, rfl⟩ := tks_prev (n := 0) (q := []) h3
 obtain ⟨rfl, rfl⟩ := tks_zero h4
 rw [if_pos e4, if_pos e3, if_pos e1]
 rfl
theorem takes_step (n : Nat) (b : List UInt8) (out : List It) : takes (n + 1) b out = if (take1 b).2.2 = 0 then takes n (take1 b).2.1 (out ++ [(take1 b).1]) else ([], [], (take1 b).2.2) := by
 rw [takes]
 generalize take1 b = p
 obtain ⟨x, s, e⟩ := p
 match e with
 | 0 => rfl
 | e + 1 => rfl
theorem read_eq (b : List UInt8) : read b = if (Pn.take b).2.2 = 0 then (if 2000 < (Pn.take b).1 then ([], 2) else if (takes (Pn.take b).1 (b.drop (Pn.take b).2.1) []).2.2 = 0 then (if (takes (Pn.take b).1 (b.drop (Pn.take b).2.1) []).2.1 = [] ∧ (takes (Pn.take b).1 (b.drop (Pn.take b).2.1) []).1.all ok = true then ((takes (Pn.take b).1 (b.drop (Pn.take b).2.1) []).1, 0) else ([], 3)) else ([], (takes (Pn.take b).1 (b.drop (Pn.take b).2.1) []).2.2)) else ([], (Pn.take b).2.2) := by
 unfold read
 generalize Pn.take b = p
 obtain ⟨n, s, e⟩ := p
 match e with
 | e + 1 => rfl
 | 0 =>
  simp only [if_true]
  generalize takes n (b.drop s) [] = q
  obtain ⟨o, r, e⟩ := q
  match e with
  | 0 => rfl
  | e + 1 => rfl
end It
end Go.Proofs.YtpdaolongmgmgaaGreatDoor
namespace Go.Proofs.YtpdaolongmgmgaaGreatDoor
open Go Go.RowKit
namespace Pn
theorem takeF_size : ∀ (l : List UInt8) (i acc : Nat), (takeF i acc l).2.2 = 0 → (takeF i acc l).2.1 ≤ i + l.length
 | [], i, acc, h => by simp [takeF] at h
 | c :: r, i, acc, h => by
  unfold takeF at h ⊢
  split
  ·rw [if_pos (by assumption)] at h; simp at h
  ·rw [if_neg (by assumption)] at h
   split
   ·simp
   ·rw [if_neg (by assumption)] at h
    have := takeF_size r (i + 1) _ h
    simp only [List.length_cons]
    omega
theorem take_size {l : List UInt8} (h : (take l).2.2 = 0) : (take l).2.1 ≤ l.length := by
 have := takeF_size l 0 0 h
 unfold take
 omega
theorem takeF_lt : ∀ (l : List UInt8) (i acc : Nat), i ≤ 9 → acc < 2 ^ (7 * i) → (takeF i acc l).1 < 2 ^ 64
 | [], i, acc, _, _ => by simp [takeF]
 | c :: r, i, acc, hi, ha => by
  unfold takeF
  split
  ·simp
  ·rename_i hn
   have h9 : i = 9 → c.toNat ≤ 1 := fun e => by
    rcases Nat.lt_or_ge 1 c.toNat with h | h
    ·exact absurd (.inl ⟨e, h⟩) hn
    ·exact h
   have hpow : 2 ^ (7 * i) * 128 = 2 ^ (7 * (i + 1)) := by rw [Nat.mul_add, Nat.pow_add]
   split
   ·rename_i hc
    show acc + c.toNat * 2 ^ (7 * i) < 2 ^ 64
    rcases (by omega : i = 9 ∨ i ≤ 8) with rfl | h8
    ·have := h9 rfl
     have e1 : c.toNat * 2 ^ (7 * 9) ≤ 1 * 2 ^ (7 * 9) := Nat.mul_le_mul_right _ this
     omega
    ·have e1 : c.toNat * 2 ^ (7 * i) ≤ 127 * 2 ^ (7 * i) := Nat.mul_le_mul_right _ (by omega)
     have e2 : 2 ^ (7 * (i + 1)) ≤ 2 ^ 63 := Nat.pow_le_pow_right (by omega) (by omega)
     omega
   ·rename_i hc
    have h8 : i ≤ 8 := by
     rcases (by omega : i = 9 ∨ i ≤ 8) with rfl | h8
     ·have := h9 rfl; omega
     ·exact h8
    refine takeF_lt r (i + 1) _ (by omega) ?_
    have hcl := c.toNat_lt
    have e1 : (c.toNat - 128) * 2 ^ (7 * i) ≤ 127 * 2 ^ (7 * i) := Nat.mul_le_mul_right _ (by omega)
    omega
theorem take_lt (l : List UInt8) : (take l).1 < 2 ^ 64 := takeF_lt l 0 0 (by omega) (by simp)
end Pn
theorem row_from {B N : Nat} {w : World} {A : Option Addr} {l : List UInt8} (hr : Row B w A N 1 (bts l)) {s : Nat} (hs : s ≤ N) {A' : Option Addr} (hA : s < N → A' = A.map (·.add s)) : Row B w A' (N - s) 1 (bts (l.drop s)) := by
 have h := hr.cut (A' := A') hs (Nat.le_refl N) (fun hlt => by rw [Nat.mul_one]; exact hA hlt)
 rw [Nat.mul_one, Nat.mul_one, ← bts_drop, ← bts_take] at h
 rwa [List.take_of_length_le (by have := hr.btlen; rw [List.length_drop]; omega)] at h
set_option maxRecDepth 100000 in
set_option maxHeartbeats 1000000 in
theorem rtake_gen (B R : Nat) (hB : B ≤ R) (A : Option Addr) (N c : Nat) (l : List UInt8) (ok : Bool) (most : Nat) (w : World) (hN : N ≤ 1000000000) (hNc : N ≤ c) (_hm : most < 18446744073709551616)
  (hR : BoxO w 312 R [.slice A N c, .bool ok]) (hr : Row B w A N 1 (bts l)) :
  Calls Tryz.prog 243 #[.pointer (some ⟨R, 0, none⟩), .int .u64 (most : Int)] w fun e w' => ∃ A' N' c', e = .returned (.int .u64 ((Rd.take most (l, ok)).1 : Int)) ∧ N' ≤ c' ∧ N' ≤ N ∧ Row B w' A' N' 1 (bts (Rd.take most (l, ok)).2.1) ∧ BoxO w' 312 R [.slice A' N' c', .bool (Rd.take most (l, ok)).2.2] ∧ Chg [R] w w' := by
 have h0 := hR.cell 0
 have h1 := hR.cell 1
 have hf := hR.free 0
 have hf1 := hR.free 1
 have ht := take_any A N c l w (by omega) (hr.up (Nat.le_trans hB (Nat.le_of_lt hR.lt)))
 have hts := Pn.take_size (l := l)
 have hln := hr.btlen
 have hrt : Rd.take most (l, ok) = if ok = true ∧ (Pn.take l).2.2 = 0 ∧ (Pn.take l).1 ≤ most then ((Pn.take l).1, (l.drop (Pn.take l).2.1, true)) else (0, (l, false)) := rfl
 obtain ⟨T, hT⟩ : ∃ T, T = Rd.take most (l, ok) := ⟨_, rfl⟩
 rw [← hT] at hrt ⊢
 generalize Pn.take l = p at *
 obtain ⟨n, s, er⟩ := p
 simp only [List.getElem?_cons_zero, List.getElem?_cons_succ] at h0 h1 ht hts hrt
 clear hT
 have HRT := Lib.hid hrt
 clear hrt
 have bad : ∀ (W : World), (ok = true ∧ er = 0 ∧ n ≤ most → False) → W = w.setCell ⟨R, 1, none⟩ (.bool false) → ∃ A' N' c', Ending.returned (.int .u64 0) = .returned (.int .u64 (T.1 : Int)) ∧ N' ≤ c' ∧ N' ≤ N ∧ Row B W A' N' 1 (bts T.2.1) ∧ BoxO W 312 R [.slice A' N' c', .bool T.2.2] ∧ Chg [R] w W := by
  intro W h hW
  rw [HRT.out, if_neg h, hW]
  exact ⟨A, N, c, rfl, hNc, Nat.le_refl _, hr.setCell hB _, hR.store 1 _, chg_set w ⟨R, 1, none⟩ _⟩
 have BAD := Lib.hid bad
 clear bad
 cases ok with
 | false =>
  clear hts hln
  go_enter Tryz.func243, Tryz.ntmps243
  go_wp2_with fail
  refine ht.mono ?_
  rintro e w1 ⟨rfl, rfl⟩
  clear ht
  go_wp2
  go_ret
  exact BAD.out _ (fun h => by cases h.1) rfl
 | true =>
  by_cases he : er = 0
  ·by_cases hn : n ≤ most
   ·subst he
    have hsl := hts rfl
    obtain ⟨A', hA'⟩ : ∃ A', (if c = s then A else Option.map (fun x => x.add s) A) = A' := ⟨_, rfl⟩
    have hrow := row_from hr (s := s) (A' := A') (by omega) (fun hlt => by rw [← hA', if_neg (by omega)])
    have hn' : ((most : Int) < (n : Int)) = False := by simp; omega
    have hsN : s ≤ N := by omega
    have hscc : s ≤ c := by omega
    have hres : T = (n, (l.drop s, true)) := by rw [HRT.out, if_pos ⟨rfl, rfl, hn⟩]
    have HRES := Lib.hid hres
    clear hts hln hres BAD HRT
    go_enter Tryz.func243, Tryz.ntmps243
    go_wp2_with fail
    refine ht.mono ?_
    rintro e w1 ⟨rfl, rfl⟩
    clear ht
    go_wp2
    go_ret
    rw [HRES.out]
    exact ⟨A', N - s, c - s, rfl, by omega, by omega, hrow.setCell hB _, hR.store 0 _, chg_set w ⟨R, 0, none⟩ _⟩
   ·subst he
    have hn' : (most : Int) < (n : Int) := by omega
    clear hts hln
    go_enter Tryz.func243, Tryz.ntmps243
    go_wp2_with fail
    refine ht.mono ?_
    rintro e w1 ⟨rfl, rfl⟩
    clear ht
    go_wp2
    go_ret
    exact BAD.out _ (fun h => hn h.2.2) rfl
  ·have he3 : ((er : Int) == 0) = false := by simp; omega
   have he4 : ¬ (er : Int) = 0 := by omega
   clear hts hln
   go_enter Tryz.func243, Tryz.ntmps243
   go_wp2_with fail
   refine ht.mono ?_
   rintro e w1 ⟨rfl, rfl⟩
   clear ht
   go_wp2
   go_ret
   exact BAD.out _ (fun h => he h.2.1) rfl
end Go.Proofs.YtpdaolongmgmgaaGreatDoor
namespace Go.Proofs.YtpdaolongmgmgaaGreatDoor
open Go Go.RowKit Go.Lib
theorem unsgn_bits (n : Nat) (hn : n < 18446744073709551616) :
  bits .xor .i64 ((n : Int) / 2) (wrap64 (-(wrap64 (bits .and .u64 (n : Int) 1)))) = unsgn n := by
 have h1 : bits .and .u64 (n : Int) 1 = ((n % 2 : Nat) : Int) := by
  have := bits64_and (BitVec.ofNat 64 n) (BitVec.ofNat 64 1)
  rw [BitVec.toNat_ofNat, BitVec.toNat_ofNat, Nat.mod_eq_of_lt hn, BitVec.toNat_and, BitVec.toNat_ofNat, BitVec.toNat_ofNat, Nat.mod_eq_of_lt hn] at this
  rw [show (1 : Int) = ((1 % 2 ^ 64 : Nat) : Int) from rfl, this]
  congr 1
  exact Nat.and_one_is_mod n
 have h2 : ∀ a b : Int, bits .xor .i64 a b = IntKind.i64.wrap ((BitVec.ofInt 64 a ^^^ BitVec.ofInt 64 b).toNat : Int) := fun _ _ => rfl
 rw [h1, h2]
 unfold unsgn
 rw [IntKind.wrap_i64]
 rcases Nat.mod_two_eq_zero_or_one n with h0 | h0
 ·have e2 : wrap64 (-(wrap64 ((0 : Nat) : Int))) = 0 := by simp [wrap64]
  have e3 : (n : Int) / 2 = ((n / 2 : Nat) : Int) := by omega
  rw [if_pos h0, h0, e2, e3, show BitVec.ofInt 64 0 = 0#64 from rfl, BitVec.xor_zero, BitVec.ofInt_natCast, BitVec.toNat_ofNat]
  omega
 ·have e2 : wrap64 (-(wrap64 ((1 : Nat) : Int))) = -1 := by simp [wrap64]
  have e3 : (n : Int) / 2 = ((n / 2 : Nat) : Int) := by omega
  rw [if_neg (by omega), h0, e2, e3, show BitVec.ofInt 64 (-1) = BitVec.allOnes 64 from by decide, BitVec.xor_allOnes, BitVec.toNat_not, BitVec.ofInt_natCast, BitVec.toNat_ofNat]
  omega
set_option maxRecDepth 100000 in
set_option maxHeartbeats 1000000 in
theorem unsign_any (n : Nat) (hn : n < 18446744073709551616) (w : World) :
  Calls Tryz.prog 297 #[.int .u64 (n : Int)] w fun e w' => e = .returned (.int .i64 (unsgn n)) ∧ w' = w := by
 have HS := Lib.hid (unsgn_bits n hn)
 go_enter Tryz.func297, Tryz.ntmps297
 go_wp2
 rw [HS.out]
 go_ret
 exact ⟨rfl, rfl⟩
def OnePost (B0 N : Nat) (w : World) (R : It × List UInt8 × Nat) (e : Ending) (w' : World) : Prop := ∃ A' n' c', e = .returned (.tuple #[R.1.val, .slice A' n' c', .int .i64 (R.2.2 : Int)]) ∧ Row B0 w A' n' 1 (bts R.2.1) ∧ n' ≤ N ∧ n' ≤ c' ∧ c' ≤ maxLen ∧ Below w.heap.size w w'
def a3 (ns : List Nat) : List Value := [.int .u64 (ns.getD 0 0 : Nat), .int .u64 (ns.getD 1 0 : Nat), .int .u64 (ns.getD 2 0 : Nat)]
theorem a3_set (ns : List Nat) (x : Nat) (h : ns.length < 3) : (a3 ns).set ns.length (.int .u64 (x : Int)) = a3 (ns ++ [x]) := by
 match ns, h with
 | [], _ => rfl
 | [a], _ => rfl
 | [a, b], _ => rfl
theorem ibox5 {w : World} {g : Nat} {cs : List Value} (x : It) (h : BoxO w 41 g cs) (hl : cs.length = 5) : BoxO (((((w.setCell ⟨g, 0, none⟩ (.int .i64 x.s)).setCell ⟨g, 1, none⟩ (.int .i64 x.k)).setCell ⟨g, 2, none⟩ (.int .u64 (x.t : Int))).setCell ⟨g, 3, none⟩ (.int .u64 (x.v : Int))).setCell ⟨g, 4, none⟩ (.int .i64 x.x)) 41 g x.cells ∧ Chg [g] w (((((w.setCell ⟨g, 0, none⟩ (.int .i64 x.s)).setCell ⟨g, 1, none⟩ (.int .i64 x.k)).setCell ⟨g, 2, none⟩ (.int .u64 (x.t : Int))).setCell ⟨g, 3, none⟩ (.int .u64 (x.v : Int))).setCell ⟨g, 4, none⟩ (.int .i64 x.x)) := by
 obtain ⟨a0, a1, a2, a3, a4, rfl⟩ : ∃ a0 a1 a2 a3 a4, cs = [a0, a1, a2, a3, a4] := by
  match cs, hl with
  | [a0, a1, a2, a3, a4], _ => exact ⟨_, _, _, _, _, rfl⟩
 exact ⟨((((h.store 0 _).store 1 _).store 2 _).store 3 _).store 4 _, (((((Chg.refl _ w).setCell _ (.inl (by simp))).setCell _ (.inl (by simp))).setCell _ (.inl (by simp))).setCell _ (.inl (by simp))).setCell _ (.inl (by simp))⟩
theorem icells5 {w : World} {g : Nat} {cs : List Value} (h : BoxO w 41 g cs) (hl : cs.length = 5) : ∃ a0 a1 a2 a3 a4, w.cell? ⟨g, 0, none⟩ = some a0 ∧ w.cell? ⟨g, 1, none⟩ = some a1 ∧ w.cell? ⟨g, 2, none⟩ = some a2 ∧ w.cell? ⟨g, 3, none⟩ = some a3 ∧ w.cell? ⟨g, 4, none⟩ = some a4 := by
 match cs, hl with
 | [a0, a1, a2, a3, a4], _ => exact ⟨a0, a1, a2, a3, a4, h.cell 0, h.cell 1, h.cell 2, h.cell 3, h.cell 4⟩
theorem a3_at {w : World} {g k : Nat} {cs : List Value} (h : BoxO w 356 g cs) (hl : cs.length = 3) (hk : k < 3) : ∃ u, w.cell? ⟨g, k, none⟩ = some u := by
 rw [h.cell]
 exact ⟨_, List.getElem?_eq_getElem (by omega)⟩
theorem tks_lt : ∀ {k : Nat} {b : List UInt8} {ns : List Nat} {r : List UInt8}, It.tks k b = some (ns, r) → ∀ n ∈ ns, n < 18446744073709551616
 | 0, b, ns, r, h => by
  obtain ⟨rfl, _⟩ := It.tks_zero h
  simp
 | k + 1, b, ns, r, h => by
  obtain ⟨ms, q, h1, _, rfl, _⟩ := It.tks_prev (n := 0) (q := []) h
  intro n hn
  rcases List.mem_append.1 hn with h2 | h2
  ·exact tks_lt h1 n h2
  ·rw [List.mem_singleton.1 h2]
   exact Pn.take_lt q
theorem tks3_lt {b : List UInt8} {ns : List Nat} {r : List UInt8} (h : It.tks 3 b = some (ns, r)) : ns.getD 2 0 < 18446744073709551616 := by
 have h1 := It.tks_len h
 have h2 : 2 < ns.length := by omega
 rw [List.getD_eq_getElem?_getD, List.getElem?_eq_getElem h2]
 exact tks_lt h _ (List.getElem_mem h2)
set_option maxRecDepth 100000 in
set_option maxHeartbeats 4000000 in
theorem one_any (A : Option Addr) (N c : Nat) (b : List UInt8) (w : World) (hN : N ≤ 1000000) (hNc : N ≤ c) (hcm : c ≤ maxLen) (B0 : Nat) (hB0 : B0 ≤ w.heap.size) (hrB : Row B0 w A N 1 (bts b)) :
  Calls Tryz.prog 249 #[.slice A N c] w (OnePost B0 N w (It.take1 b)) := by
 have hr := hrB.up hB0
 have hln := hr.btlen
 have hU := (Below.refl w.heap.size w).alloc (Nat.le_refl _) (.cells #[.int .i64 0, .int .i64 0, .int .u64 0, .int .u64 0, .int .i64 0] 41)
 have hbx : BoxO (w.alloc (.cells #[.int .i64 0, .int .i64 0, .int .u64 0, .int .u64 0, .int .i64 0] 41)) 41 w.heap.size [.int .i64 0, .int .i64 0, .int .u64 0, .int .u64 0, .int .i64 0] := BoxO.new w _ 41
 by_cases h2 : b.length < 2
 ·have hn2 : (N : Int) < 2 := by omega
  have hR : It.take1 b = (It.zero_, [], 4) := by rw [It.take1_eq, if_pos h2]
  rw [hR]
  have c0 := hbx.cell 0
  have c1 := hbx.cell 1
  have c2 := hbx.cell 2
  have c3 := hbx.cell 3
  have c4 := hbx.cell 4
  have f0 := hbx.free 0
  have f1 := hbx.free 1
  have f2 := hbx.free 2
  have f3 := hbx.free 3
  have f4 := hbx.free 4
  simp only [List.getElem?_cons_zero, List.getElem?_cons_succ] at c0 c1 c2 c3 c4
  have HB := Lib.hid hU
  clear hbx hU hR
  go_enter Tryz.func249, Tryz.ntmps249
  go_wp2
  refine bodyPost_ret (v := .tuple #[It.zero_.val, .slice none 0 0, .int .i64 4]) (by simp [results, go_sem, It.val, It.zero_, *]) rfl ⟨none, 0, 0, rfl, Row.nil_, by omega, by omega, by omega, ?_⟩
  exact HB.out
 ·have hn2 : ((N : Int) < 2) = False := eq_false (by omega)
  obtain ⟨p, hl0, hA, hpb, d0⟩ := hr.bt (k := 0) (by omega)
  obtain ⟨p', hl1, hA', _, d1⟩ := hr.bt (k := 1) (by omega)
  rw [hA] at hA'
  injection hA' with hA'
  subst hA' hA
  have hu0 : Fr.u b 0 = (b[0]).toNat := by simp [Fr.u, List.getD_eq_getElem?_getD, List.getElem?_eq_getElem hl0]
  have hu1 : Fr.u b 1 = (b[1]).toNat := by simp [Fr.u, List.getD_eq_getElem?_getD, List.getElem?_eq_getElem hl1]
  rw [← hu0] at d0
  rw [← hu1] at d1
  obtain ⟨s, hs⟩ : ∃ s, s = Fr.u b 0 := ⟨_, rfl⟩
  obtain ⟨kd, hkd⟩ : ∃ kd, kd = Fr.u b 1 := ⟨_, rfl⟩
  rw [← hs] at d0
  rw [← hkd] at d1
  have hs8 : s < 256 := by rw [hs, hu0]; exact (b[0]).toNat_lt
  have hk8 : kd < 256 := by rw [hkd, hu1]; exact (b[1]).toNat_lt
  have hws : IntKind.i64.wrap (s : Int) = (s : Int) := IntWalk.i64_in _ (by omega)
  have hwk : IntKind.i64.wrap (kd : Int) = (kd : Int) := IntWalk.i64_in _ (by omega)
  rw [show p.add 0 = p from rfl] at d0
  rw [show p.add 1 = ⟨p.block, p.off + 1, none⟩ from rfl] at d1
  have hkc : ∀ w', Chg [w.heap.size] (w.alloc (.cells #[.int .i64 0, .int .i64 0, .int .u64 0, .int .u64 0, .int .i64 0] 41)) w' → w'.cell? p = some (.int .u8 (s : Int)) ∧ w'.cell? ⟨p.block, p.off + 1, none⟩ = some (.int .u8 (kd : Int)) := fun w' hc => by
   have hb := hU.trans (hc.below hU.size (fun g hg => by rw [List.mem_singleton.1 hg]; exact Nat.le_refl _))
   exact ⟨(hb.cell (p := p) hpb).trans d0, (hb.cell (p := ⟨p.block, p.off + 1, none⟩) hpb).trans d1⟩
  have hr2 := row_from hr (s := 2) (by omega) (A' := some (p.add 2)) (fun _ => rfl)
  obtain ⟨V, hV⟩ : ∃ V, V = w.alloc (.cells #[.int .i64 0, .int .i64 0, .int .u64 0, .int .u64 0, .int .i64 0] 41) := ⟨_, rfl⟩
  rw [← hV] at hkc hU hbx
  have KC := Lib.hid hkc
  have HU := Lib.hid hU
  have HBX := Lib.hid hbx
  have HS := Lib.hid (And.intro hs hkd)
  have HR := Lib.hid hrB
  have hVs := hV.symm
  obtain ⟨A2, hA2⟩ : ∃ A2, (if c = 2 then some p else some ⟨p.block, p.off + 2, none⟩) = A2 := ⟨_, rfl⟩
  have hc2 : 2 ≤ c := by omega
  have hN0 : 0 < N := by omega
  have hN1 : 1 < N := by omega
  have hN0i : (0 : Int) < (N : Int) := by omega
  have hN1i : (1 : Int) < (N : Int) := by omega
  have hN2 : 2 ≤ N := by omega
  have hN2i : (2 : Int) ≤ (N : Int) := by omega
  clear hkc hU hbx hs hkd hr hV hr2 d0 d1 hu0 hu1
  go_enter Tryz.func249, Tryz.ntmps249
  go_wp2_with fail
  refine wp_region_held_drew (S := fun w' => Chg [w.heap.size] V w' ∧ ∃ cs : List Value, cs.length = 5 ∧ BoxO w' 41 w.heap.size cs) rfl ⟨(Chg.refl _ V).drew, _, rfl, HBX.out.drew⟩ (fun hSw => ?_)
  refine wpAnyH_take (i := 0) (v := ?vra0) rfl (by kernel_rfl) (by kernel_rfl) (by kernel_rfl) (fun _ _ _ h => h) (Or.inl ⟨by rfl, ?hra0⟩) hSw ?kra0
  case hra0 => (intro w hSw; (obtain ⟨d0, d1⟩ := KC.out w hSw.1); go_simp; try (with_reducible rfl))
  go_simp
  refine wpAnyH_take (i := 1) (v := ?vra1) rfl (by kernel_rfl) (by kernel_rfl) (by kernel_rfl) (fun _ _ _ h => h) (Or.inl ⟨by rfl, ?hra1⟩) hSw ?kra1
  case hra1 => (intro w hSw; (obtain ⟨d0, d1⟩ := KC.out w hSw.1); go_simp; try (with_reducible rfl))
  go_simp
  refine wpAnyH_take (i := 2) (v := ?vra2) rfl (by kernel_rfl) (by kernel_rfl) (by kernel_rfl) (fun _ _ _ h => h) (Or.inl ⟨by rfl, ?hra2⟩) hSw ?kra2
  case hra2 => (intro w hSw; (obtain ⟨d0, d1⟩ := KC.out w hSw.1); go_simp; try (with_reducible rfl))
  go_simp
  refine wpAnyH_take (i := 3) (v := ?vra3) rfl (by kernel_rfl) (by kernel_rfl) (by kernel_rfl) (fun _ _ _ h => h) (Or.inl ⟨by rfl, ?hra3⟩) hSw ?kra3
  case hra3 => (intro w hSw; (obtain ⟨d0, d1⟩ := KC.out w hSw.1); go_simp; try (with_reducible rfl))
  go_simp
  refine wpAnyH_take (i := 4) (v := ?vra4) rfl (by kernel_rfl) (by kernel_rfl) (by kernel_rfl) (fun _ _ _ h => h) (Or.inl ⟨by rfl, ?hra4⟩) hSw ?kra4
  case hra4 => (intro w hSw; (obtain ⟨d0, d1⟩ := KC.out w hSw.1); go_simp; try (with_reducible rfl))
  go_simp
  refine wpAnyH_take (i := 5) (v := ?vra5) rfl (by kernel_rfl) (by kernel_rfl) (by kernel_rfl) (fun _ _ _ h => h) (Or.inl ⟨by rfl, ?hra5⟩) hSw ?kra5
  case hra5 => (intro w hSw; (obtain ⟨d0, d1⟩ := KC.out w hSw.1); go_simp; try (with_reducible rfl))
  go_simp
  refine wpAnyH_take (i := 6) (v := ?vra6) rfl (by kernel_rfl) (by kernel_rfl) (by kernel_rfl) (fun _ _ _ h => h) (Or.inl ⟨by rfl, ?hra6⟩) hSw ?kra6
  case hra6 => (intro w hSw; (obtain ⟨d0, d1⟩ := KC.out w hSw.1); go_simp; try (with_reducible rfl))
  go_simp
  refine wpAnyH_take (i := 7) (v := ?vra7) rfl (by kernel_rfl) (by kernel_rfl) (by kernel_rfl) (fun _ _ _ h => h) (Or.inl ⟨by rfl, ?hra7⟩) hSw ?kra7
  case hra7 => (intro w hSw; (obtain ⟨d0, d1⟩ := KC.out w hSw.1); go_simp; try (with_reducible rfl))
  go_simp
  refine wpAnyH_take (i := 8) (v := ?vra8) rfl (by kernel_rfl) (by kernel_rfl) (by kernel_rfl) (fun _ _ _ h => h) (Or.inl ⟨by rfl, ?hra8⟩) hSw ?kra8
  case hra8 => (intro w hSw; (obtain ⟨d0, d1⟩ := KC.out w hSw.1); go_simp; try (with_reducible rfl))
  go_simp
  refine wpAnyH_ready (rs := [9]) (by kernel_rfl) (by simp) ?_
  refine AllReadyH.cons rfl (fun K hK => ?_) AllReadyH.nil
  (obtain ⟨cs, hcl, hcb⟩ := hSw.2; obtain ⟨_, _, _, _, _, q0, q1, q2, q3, q4⟩ := icells5 hcb hcl; have z0 := hcb.free 0)
  go_simp
  refine hK.out _ _ ⟨hSw.1.setCell _ (.inl (by simp)), _, by rw [List.length_set]; exact hcl, hcb.store 0 _⟩ (fun hSn => ?_)
  clear hK K hSw
  have hSw := hSn
  clear hSn
  go_simp
  refine wpAnyH_take (i := 10) (v := ?vra10) rfl (by kernel_rfl) (by kernel_rfl) (by kernel_rfl) (fun _ _ _ h => h) (Or.inl ⟨by rfl, ?hra10⟩) hSw ?kra10
  case hra10 => (intro w hSw; (obtain ⟨d0, d1⟩ := KC.out w hSw.1); go_simp; try (with_reducible rfl))
  go_simp
  refine wpAnyH_ready (rs := [11]) (by kernel_rfl) (by simp) ?_
  refine AllReadyH.cons rfl (fun K hK => ?_) AllReadyH.nil
  (obtain ⟨cs, hcl, hcb⟩ := hSw.2; obtain ⟨_, _, _, _, _, q0, q1, q2, q3, q4⟩ := icells5 hcb hcl; have z0 := hcb.free 1)
  go_simp
  refine hK.out _ _ ⟨hSw.1.setCell _ (.inl (by simp)), _, by rw [List.length_set]; exact hcl, hcb.store 1 _⟩ (fun hSn => ?_)
  clear hK K hSw
  have hSw := hSn
  clear hSn
  go_simp
  refine wpAnyH_done (by kernel_rfl) ?_ _
  clear hSw KC
  have hbW : BoxO ((V.setCell ⟨w.heap.size, 0, none⟩ (.int .i64 (s : Int))).setCell ⟨w.heap.size, 1, none⟩ (.int .i64 (kd : Int))).drew 41 w.heap.size [.int .i64 (s : Int), .int .i64 (kd : Int), .int .u64 0, .int .u64 0, .int .i64 0] := ((HBX.out.store 0 _).store 1 _).drew
  have hcW : Chg [w.heap.size] V ((V.setCell ⟨w.heap.size, 0, none⟩ (.int .i64 (s : Int))).setCell ⟨w.heap.size, 1, none⟩ (.int .i64 (kd : Int))).drew := (((Chg.refl _ V).setCell _ (.inl (by simp))).setCell _ (.inl (by simp))).drew
  have hlw : w.heap.size < V.heap.size := HBX.out.lt
  obtain ⟨W, hW⟩ : ∃ W, W = ((V.setCell ⟨w.heap.size, 0, none⟩ (.int .i64 (s : Int))).setCell ⟨w.heap.size, 1, none⟩ (.int .i64 (kd : Int))).drew := ⟨_, rfl⟩
  rw [← hW] at hbW hcW ⊢
  have hUb := HU.out.trans (hcW.below HU.out.size (fun g hg => by rw [List.mem_singleton.1 hg]; exact Nat.le_refl _))
  have hr2 := row_from HR.out (s := 2) hN2 (A' := A2) (fun hlt => by rw [← hA2, if_neg (by omega)]; rfl)
  have hUa := hUb.alloc hUb.size (.cells #[.int .u64 0, .int .u64 0, .int .u64 0] 356)
  have hba := BoxO.new W #[.int .u64 0, .int .u64 0, .int .u64 0] 356
  have hbg := hbW.alloc (.cells #[.int .u64 0, .int .u64 0, .int .u64 0] 356)
  have hgl := hbW.lt
  obtain ⟨Y, hY⟩ : ∃ Y, Y = W.alloc (.cells #[.int .u64 0, .int .u64 0, .int .u64 0] 356) := ⟨_, rfl⟩
  rw [← hY] at hUa hba hbg
  have hYs := hY.symm
  have hne : w.heap.size ≠ W.heap.size := by omega
  have hge : w.heap.size ≤ W.heap.size := by omega
  have HUA := Lib.hid hUa
  have HBA := Lib.hid (show BoxO Y 356 W.heap.size (a3 []) from hba)
  have HBG := Lib.hid hbg
  have HR2 := Lib.hid hr2
  have HNE := Lib.hid (And.intro hne hge)
  clear hbW hcW hW hUb hr2 hUa hba hbg hY hlw hgl hVs HBX HU HR hne hge hpb hl0 hl1
  go_wp2_with fail
  go_loopw [0, 26] (fun bv i wr => ∃ (k n : Nat) (A4 : Option Addr) (c4 : Nat) (ns : List Nat) (r : List UInt8), k ≤ 3 ∧ bv = .slice A4 n c4 ∧ i = .int .i64 (k : Int) ∧ Hid (It.tks k (b.drop 2) = some (ns, r) ∧ Row B0 w A4 n 1 (bts r) ∧ n ≤ c4 ∧ c4 ≤ maxLen ∧ n ≤ N ∧ BoxO wr 356 W.heap.size (a3 ns)) ∧ Chg [W.heap.size] Y wr) (fun _ i _ => 3 - (intOf i).toNat)
  case atStart => exact ⟨0, N - 2, A2, c - 2, [], b.drop 2, by omega, by simp, rfl, Lib.hid ⟨rfl, HR2.out, by omega, by unfold maxLen at *; omega, by omega, HBA.out⟩, Chg.refl _ _⟩
  case round =>
   obtain ⟨k, n, A4, c4, ns, r, hk3, rfl, rfl, HK, hc⟩ := hrel
   have hbw := HUA.out.trans (hc.below HUA.out.size (fun g hg => by rw [List.mem_singleton.1 hg]; exact HNE.out.2))
   have hbg := HBG.out.chg hc (by simpa using HNE.out.1)
   have hnsl := It.tks_len HK.out.1
   by_cases hk : k < 3
   ·have hki : (k : Int) < 3 := by omega
    have hwk' : IntKind.i64.wrap (k : Int) = (k : Int) := IntWalk.i64_in _ (by omega)
    have hrr := ((HK.out.2.1.up hB0).below hbw).up hbw.size
    have hrl := hrr.btlen
    have htk := take_any A4 n c4 r wr (by have := HK.out.2.2.2.2.1; omega) hrr
    have hsz := Pn.take_size (l := r)
    obtain ⟨x, hx⟩ : ∃ x, x = (Pn.take r).1 := ⟨_, rfl⟩
    obtain ⟨sz, hsze⟩ : ∃ sz, sz = (Pn.take r).2.1 := ⟨_, rfl⟩
    obtain ⟨er, her⟩ : ∃ er, er = (Pn.take r).2.2 := ⟨_, rfl⟩
    rw [← hx, ← hsze, ← her] at htk
    rw [← her, ← hsze] at hsz
    have HTK := Lib.hid htk
    have HX := Lib.hid hx
    have HSZ := Lib.hid hsze
    have HER := Lib.hid her
    by_cases he : er = 0
    ·subst he
     have hszl := hsz rfl
     have htks := It.tks_succ HK.out.1 HER.out.symm
     obtain ⟨A5, hA5⟩ : ∃ A5, (if c4 = sz then A4 else Option.map (fun x => x.add sz) A4) = A5 := ⟨_, rfl⟩
     have hr5 := row_from HK.out.2.1 (s := sz) (by omega) (A' := A5) (fun hlt2 => by rw [← hA5, if_neg (by have := HK.out.2.2.1; omega)])
     rw [← HX.out, ← HSZ.out] at htks
     have hszn : sz ≤ n := by omega
     have hszni : (sz : Int) ≤ (n : Int) := by omega
     have hszc : sz ≤ c4 := by have := HK.out.2.2.1; omega
     have hszci : (sz : Int) ≤ (c4 : Int) := by omega
     have HT := Lib.hid (And.intro htks hr5)
     have HCB := Lib.hid (And.intro hc hbw)
     clear htk hsz htks hr5 hrr hx hsze her hbg hbw hnsl
     go_wp2_with fail
     refine HTK.out.mono ?_
     rintro e w1 ⟨rfl, hw1⟩
     subst hw1
     clear HTK
     go_wp2_with fail
     refine wp_region_held_drew (S := fun w' => Chg [W.heap.size] Y w' ∧ ∃ cs : List Value, cs.length = 3 ∧ BoxO w' 356 W.heap.size cs) rfl ⟨HCB.out.1.drew, _, rfl, HK.out.2.2.2.2.2.drew⟩ (fun hSw => ?_)
     refine wpAnyH_take (i := 0) (v := ?vrb0) rfl (by kernel_rfl) (by kernel_rfl) (by kernel_rfl) (fun _ _ _ h => h) (Or.inl ⟨by rfl, ?hrb0⟩) hSw ?krb0
     case hrb0 => (intro w hSw; skip; go_simp; try (with_reducible rfl))
     go_simp
     refine wpAnyH_take (i := 1) (v := ?vrb1) rfl (by kernel_rfl) (by kernel_rfl) (by kernel_rfl) (fun _ _ _ h => h) (Or.inl ⟨by rfl, ?hrb1⟩) hSw ?krb1
     case hrb1 => (intro w hSw; skip; go_simp; try (with_reducible rfl))
     go_simp
     refine wpAnyH_take (i := 2) (v := ?vrb2) rfl (by kernel_rfl) (by kernel_rfl) (by kernel_rfl) (fun _ _ _ h => h) (Or.inl ⟨by rfl, ?hrb2⟩) hSw ?krb2
     case hrb2 => (intro w hSw; skip; go_simp; try (with_reducible rfl))
     go_simp
     refine wpAnyH_take (i := 3) (v := ?vrb3) rfl (by kernel_rfl) (by kernel_rfl) (by kernel_rfl) (fun _ _ _ h => h) (Or.inl ⟨by rfl, ?hrb3⟩) hSw ?krb3
     case hrb3 => (intro w hSw; skip; go_simp; try (with_reducible rfl))
     go_simp
     refine wpAnyH_take (i := 4) (v := ?vrb4) rfl (by kernel_rfl) (by kernel_rfl) (by kernel_rfl) (fun _ _ _ h => h) (Or.inl ⟨by rfl, ?hrb4⟩) hSw ?krb4
     case hrb4 => (intro w hSw; skip; go_simp; try (with_reducible rfl))
     go_simp
     refine wpAnyH_take (i := 5) (v := ?vrb5) rfl (by kernel_rfl) (by kernel_rfl) (by kernel_rfl) (fun _ _ _ h => h) (Or.inl ⟨by rfl, ?hrb5⟩) hSw ?krb5
     case hrb5 => (intro w hSw; skip; go_simp; try (with_reducible rfl))
     go_simp
     refine wpAnyH_ready (rs := [6]) (by kernel_rfl) (by simp) ?_
     refine AllReadyH.cons rfl (fun K hK => ?_) AllReadyH.nil
     (obtain ⟨cs, hcl, hcb⟩ := hSw.2; obtain ⟨_, q0⟩ := a3_at hcb hcl hk; have z0 := hcb.free k)
     go_simp
     refine hK.out _ _ ⟨hSw.1.setCell _ (.inl (by simp)), _, by rw [List.length_set]; exact hcl, hcb.store k _⟩ (fun hSn => ?_)
     clear hK K hSw
     have hSw := hSn
     clear hSn
     go_simp
     refine wpAnyH_take (i := 7) (v := ?vrb7) rfl (by kernel_rfl) (by kernel_rfl) (by kernel_rfl) (fun _ _ _ h => h) (Or.inl ⟨by rfl, ?hrb7⟩) hSw ?krb7
     case hrb7 => (intro w hSw; skip; go_simp; try (with_reducible rfl))
     go_simp
     refine wpAnyH_done (by kernel_rfl) ?_ _
     have hc3 : Chg [W.heap.size] Y (wr.setCell ⟨W.heap.size, k, none⟩ (.int .u64 (x : Int))).drew := (HCB.out.1.setCell _ (.inl (by simp))).drew
     have hb3 := (HK.out.2.2.2.2.2.store k (.int .u64 (x : Int))).drew
     rw [← It.tks_len HK.out.1, a3_set ns x (by rw [It.tks_len HK.out.1]; exact hk), It.tks_len HK.out.1] at hb3
     have HF := Lib.hid (And.intro hb3 hc3)
     clear hSw hb3 hc3
     go_wp2
     go_roundw
     case rel => exact ⟨k + 1, n - sz, A5, c4 - sz, ns ++ [x], r.drop sz, by omega, by simp [hA5], by go_num, Lib.hid ⟨HT.out.1, HT.out.2, by have := HK.out.2.2.1; omega, by have := HK.out.2.2.2.1; omega, by have := HK.out.2.2.2.2.1; omega, HF.out.1⟩, HF.out.2⟩
     case measure => simp [intOf]; omega
    ·have hR : It.take1 b = (It.zero_, [], er) := by rw [It.take1_bad h2 hk HK.out.1 (by rw [← HER.out]; exact he), ← HER.out]
     have he3 : ((er : Int) == 0) = false := by simp; omega
     have q0 := hbg.cell 0
     have q1 := hbg.cell 1
     have q2 := hbg.cell 2
     have q3 := hbg.cell 3
     have q4 := hbg.cell 4
     have z0 := hbg.free 0
     have z1 := hbg.free 1
     have z2 := hbg.free 2
     have z3 := hbg.free 3
     have z4 := hbg.free 4
     simp only [List.getElem?_cons_zero, List.getElem?_cons_succ] at q0 q1 q2 q3 q4
     have hfin := hbw.trans ((ibox5 It.zero_ hbg rfl).2.below hbw.size (fun g hg => by rw [List.mem_singleton.1 hg]; exact Nat.le_refl _))
     have HFIN := Lib.hid hfin
     have HR := Lib.hid hR
     clear htk hsz hrr hx hsze her hbg hbw hnsl hfin hR
     go_wp2_with fail
     refine HTK.out.mono ?_
     rintro e w1 ⟨rfl, hw1⟩
     subst hw1
     clear HTK
     go_wp2
     rw [HR.out]
     refine bodyPost_ret (v := .tuple #[It.zero_.val, .slice none 0 0, .int .i64 (er : Int)]) (by simp [results, go_sem, It.val, It.zero_, *]) rfl ⟨none, 0, 0, rfl, Row.nil_, by omega, by omega, by omega, HFIN.out⟩
   ·obtain rfl : k = 3 := by omega
    have hR := It.take1_good h2 HK.out.1
    rw [← HS.out.1, ← HS.out.2] at hR
    have hbA := HK.out.2.2.2.2.2
    have hus := fun W1 => unsign_any (ns.getD 2 0) (tks3_lt HK.out.1) W1
    have hkz : ∀ w', Chg [w.heap.size] wr w' → w'.cell? ⟨W.heap.size, 0, none⟩ = some (.int .u64 (ns.getD 0 0 : Nat)) ∧ w'.cell? ⟨W.heap.size, 1, none⟩ = some (.int .u64 (ns.getD 1 0 : Nat)) ∧ w'.cell? ⟨W.heap.size, 2, none⟩ = some (.int .u64 (ns.getD 2 0 : Nat)) := fun w' h => by
     have e := hbA.chg h (by simpa using fun e => HNE.out.1 e.symm)
     exact ⟨e.cell 0, e.cell 1, e.cell 2⟩
    generalize ns.getD 0 0 = t at *
    generalize ns.getD 1 0 = v at *
    generalize ns.getD 2 0 = xv at *
    have KZ := Lib.hid hkz
    have HUS := Lib.hid hus
    have HR := Lib.hid hR
    have HBW := Lib.hid hbw
    have HBG2 := Lib.hid hbg
    clear hkz hus hR hbA hbw hbg
    go_wp2_with fail
    refine wp_region_held_drew (S := fun w' => Chg [w.heap.size] wr w' ∧ ∃ cs : List Value, cs.length = 5 ∧ BoxO w' 41 w.heap.size cs) rfl ⟨(Chg.refl _ wr).drew, _, rfl, HBG2.out.drew⟩ (fun hSw => ?_)
    refine wpAnyH_take (i := 0) (v := ?vrc0) rfl (by kernel_rfl) (by kernel_rfl) (by kernel_rfl) (fun _ _ _ h => h) (Or.inl ⟨by rfl, ?hrc0⟩) hSw ?krc0
    case hrc0 => (intro w hSw; (obtain ⟨d0, d1, d2⟩ := KZ.out w hSw.1); go_simp; try (with_reducible rfl))
    go_simp
    refine wpAnyH_take (i := 1) (v := ?vrc1) rfl (by kernel_rfl) (by kernel_rfl) (by kernel_rfl) (fun _ _ _ h => h) (Or.inl ⟨by rfl, ?hrc1⟩) hSw ?krc1
    case hrc1 => (intro w hSw; (obtain ⟨d0, d1, d2⟩ := KZ.out w hSw.1); go_simp; try (with_reducible rfl))
    go_simp
    refine wpAnyH_take (i := 2) (v := ?vrc2) rfl (by kernel_rfl) (by kernel_rfl) (by kernel_rfl) (fun _ _ _ h => h) (Or.inl ⟨by rfl, ?hrc2⟩) hSw ?krc2
    case hrc2 => (intro w hSw; (obtain ⟨d0, d1, d2⟩ := KZ.out w hSw.1); go_simp; try (with_reducible rfl))
    go_simp
    refine wpAnyH_take (i := 3) (v := ?vrc3) rfl (by kernel_rfl) (by kernel_rfl) (by kernel_rfl) (fun _ _ _ h => h) (Or.inl ⟨by rfl, ?hrc3⟩) hSw ?krc3
    case hrc3 => (intro w hSw; (obtain ⟨d0, d1, d2⟩ := KZ.out w hSw.1); go_simp; try (with_reducible rfl))
    go_simp
    refine wpAnyH_take (i := 4) (v := ?vrc4) rfl (by kernel_rfl) (by kernel_rfl) (by kernel_rfl) (fun _ _ _ h => h) (Or.inl ⟨by rfl, ?hrc4⟩) hSw ?krc4
    case hrc4 => (intro w hSw; (obtain ⟨d0, d1, d2⟩ := KZ.out w hSw.1); go_simp; try (with_reducible rfl))
    go_simp
    refine wpAnyH_take (i := 5) (v := ?vrc5) rfl (by kernel_rfl) (by kernel_rfl) (by kernel_rfl) (fun _ _ _ h => h) (Or.inl ⟨by rfl, ?hrc5⟩) hSw ?krc5
    case hrc5 => (intro w hSw; (obtain ⟨d0, d1, d2⟩ := KZ.out w hSw.1); go_simp; try (with_reducible rfl))
    go_simp
    refine wpAnyH_take (i := 7) (v := ?vrc7) rfl (by kernel_rfl) (by kernel_rfl) (by kernel_rfl) (fun _ _ _ h => h) (Or.inl ⟨by rfl, ?hrc7⟩) hSw ?krc7
    case hrc7 => (intro w hSw; (obtain ⟨d0, d1, d2⟩ := KZ.out w hSw.1); go_simp; try (with_reducible rfl))
    go_simp
    refine wpAnyH_ready (rs := [6]) (by kernel_rfl) (by simp) ?_
    refine AllReadyH.cons rfl (fun K hK => ?_) AllReadyH.nil
    go_simp
    with_reducible refine (HUS.out _).mono ?_
    rintro e w7 ⟨rfl, rfl⟩
    go_simp
    refine hK.out _ _ hSw (fun hSn => ?_)
    clear hK K hSw
    have hSw := hSn
    clear hSn
    go_simp
    refine wpAnyH_ready (rs := [8]) (by kernel_rfl) (by simp) ?_
    refine AllReadyH.cons rfl (fun K hK => ?_) AllReadyH.nil
    (obtain ⟨cs, hcl, hcb⟩ := hSw.2; obtain ⟨_, _, _, _, _, q0, q1, q2, q3, q4⟩ := icells5 hcb hcl; have z0 := hcb.free 2)
    go_simp
    refine hK.out _ _ ⟨hSw.1.setCell _ (.inl (by simp)), _, by rw [List.length_set]; exact hcl, hcb.store 2 _⟩ (fun hSn => ?_)
    clear hK K hSw
    have hSw := hSn
    clear hSn
    go_simp
    refine wpAnyH_take (i := 9) (v := ?vrc9) rfl (by kernel_rfl) (by kernel_rfl) (by kernel_rfl) (fun _ _ _ h => h) (Or.inl ⟨by rfl, ?hrc9⟩) hSw ?krc9
    case hrc9 => (intro w hSw; (obtain ⟨d0, d1, d2⟩ := KZ.out w hSw.1); go_simp; try (with_reducible rfl))
    go_simp
    refine wpAnyH_ready (rs := [10]) (by kernel_rfl) (by simp) ?_
    refine AllReadyH.cons rfl (fun K hK => ?_) AllReadyH.nil
    (obtain ⟨cs, hcl, hcb⟩ := hSw.2; obtain ⟨_, _, _, _, _, q0, q1, q2, q3, q4⟩ := icells5 hcb hcl; have z0 := hcb.free 3)
    go_simp
    refine hK.out _ _ ⟨hSw.1.setCell _ (.inl (by simp)), _, by rw [List.length_set]; exact hcl, hcb.store 3 _⟩ (fun hSn => ?_)
    clear hK K hSw
    have hSw := hSn
    clear hSn
    go_simp
    refine wpAnyH_take (i := 11) (v := ?vrc11) rfl (by kernel_rfl) (by kernel_rfl) (by kernel_rfl) (fun _ _ _ h => h) (Or.inl ⟨by rfl, ?hrc11⟩) hSw ?krc11
    case hrc11 => (intro w hSw; (obtain ⟨d0, d1, d2⟩ := KZ.out w hSw.1); go_simp; try (with_reducible rfl))
    go_simp
    refine wpAnyH_ready (rs := [12]) (by kernel_rfl) (by simp) ?_
    refine AllReadyH.cons rfl (fun K hK => ?_) AllReadyH.nil
    (obtain ⟨cs, hcl, hcb⟩ := hSw.2; obtain ⟨_, _, _, _, _, q0, q1, q2, q3, q4⟩ := icells5 hcb hcl; have z0 := hcb.free 4)
    go_simp
    refine hK.out _ _ ⟨hSw.1.setCell _ (.inl (by simp)), _, by rw [List.length_set]; exact hcl, hcb.store 4 _⟩ (fun hSn => ?_)
    clear hK K hSw
    have hSw := hSn
    clear hSn
    go_simp
    refine wpAnyH_done (by kernel_rfl) ?_ _
    have hb5 : BoxO (((wr.setCell ⟨w.heap.size, 2, none⟩ (.int .u64 (t : Int))).setCell ⟨w.heap.size, 3, none⟩ (.int .u64 (v : Int))).setCell ⟨w.heap.size, 4, none⟩ (.int .i64 (unsgn xv))).drew 41 w.heap.size [.int .i64 (s : Int), .int .i64 (kd : Int), .int .u64 (t : Int), .int .u64 (v : Int), .int .i64 (unsgn xv)] := (((HBG2.out.store 2 _).store 3 _).store 4 _).drew
    have hcs := hSw.1
    clear hSw
    obtain ⟨X, hX⟩ : ∃ X, X = (((wr.setCell ⟨w.heap.size, 2, none⟩ (.int .u64 (t : Int))).setCell ⟨w.heap.size, 3, none⟩ (.int .u64 (v : Int))).setCell ⟨w.heap.size, 4, none⟩ (.int .i64 (unsgn xv))).drew := ⟨_, rfl⟩
    rw [← hX] at hb5 hcs ⊢
    have q0 := hb5.cell 0
    have q1 := hb5.cell 1
    have q2 := hb5.cell 2
    have q3 := hb5.cell 3
    have q4 := hb5.cell 4
    have z0 := hb5.free 0
    have z1 := hb5.free 1
    have z2 := hb5.free 2
    have z3 := hb5.free 3
    have z4 := hb5.free 4
    simp only [List.getElem?_cons_zero, List.getElem?_cons_succ] at q0 q1 q2 q3 q4
    have hbX := HBW.out.trans (hcs.below HBW.out.size (fun g hg => by rw [List.mem_singleton.1 hg]; exact Nat.le_refl _))
    have hfin := hbX.trans ((ibox5 ⟨(s : Int), (kd : Int), t, v, unsgn xv⟩ hb5 rfl).2.below hbX.size (fun g hg => by rw [List.mem_singleton.1 hg]; exact Nat.le_refl _))
    have hrow := HK.out.2.1
    have HF := Lib.hid (And.intro hrow (And.intro HK.out.2.2.2.2.1 (And.intro HK.out.2.2.1 (And.intro HK.out.2.2.2.1 hfin))))
    clear hb5 hcs hX hbX hfin hrow HBG2
    go_wp2
    rw [HR.out]
    refine bodyPost_ret (v := .tuple #[(It.mk (s : Int) (kd : Int) t v (unsgn xv)).val, .slice A4 n c4, .int .i64 0]) (by simp [results, go_sem, It.val, *]) rfl ⟨A4, n, c4, rfl, HF.out⟩
end Go.Proofs.YtpdaolongmgmgaaGreatDoor
namespace Go.Proofs.YtpdaolongmgmgaaGreatDoor
open Go Go.RowKit Go.Lib
def IrdPost (w : World) (R : List It × Nat) (e : Ending) (w' : World) : Prop := ∃ A' k c', e = .returned (.tuple #[.slice A' k c', .int .i64 (R.2 : Int)]) ∧ k = R.1.length ∧ Its w.heap.size w' A' k c' R.1 ∧ Below w.heap.size w w'
theorem Its.nil (B : Nat) (w : World) : Its B w none 0 0 [] := ⟨⟨rfl, fun j hj => by simp [itc] at hj⟩, Nat.le_refl _, by unfold maxLen; omega, fun a ha => by cases ha⟩
set_option maxRecDepth 100000 in
set_option maxHeartbeats 4000000 in
theorem iread_any (A : Option Addr) (N c : Nat) (b : List UInt8) (w : World) (hN : N ≤ 1000000) (hNc : N ≤ c) (hcm : c ≤ maxLen) (hr : Row w.heap.size w A N 1 (bts b)) :
  Calls Tryz.prog 187 #[.slice A N c] w (IrdPost w (It.read b)) := by
 obtain ⟨i0, hi0, hz0, hz1, hz2⟩ := info_parts info_item
 have hln := hr.btlen
 have htk := take_any A N c b w (by omega) hr
 have hsz := Pn.take_size (l := b)
 have hre := It.read_eq b
 obtain ⟨R, hR⟩ : ∃ R, R = It.read b := ⟨_, rfl⟩
 rw [← hR] at hre ⊢
 obtain ⟨n, hn⟩ : ∃ n, n = (Pn.take b).1 := ⟨_, rfl⟩
 obtain ⟨sz, hsze⟩ : ∃ sz, sz = (Pn.take b).2.1 := ⟨_, rfl⟩
 obtain ⟨er, her⟩ : ∃ er, er = (Pn.take b).2.2 := ⟨_, rfl⟩
 rw [← hn, ← hsze, ← her] at htk
 rw [← hn, ← hsze, ← her] at hre
 rw [← her, ← hsze] at hsz
 clear hR hn hsze her
 have HTK := Lib.hid htk
 by_cases he : er = 0
 ·subst he
  have hszl := hsz rfl
  rw [if_pos rfl] at hre
  by_cases h20 : 2000 < n
  ·rw [if_pos h20] at hre
   have h20i : (2000 : Int) < (n : Int) := by omega
   have HRE := Lib.hid hre
   clear htk hre hsz hr
   go_enter Tryz.func187, Tryz.ntmps187
   go_wp2_with fail
   refine HTK.out.mono ?_
   rintro e w1 ⟨rfl, hw1⟩
   subst hw1
   clear HTK
   go_wp2
   refine bodyPost_ret (v := .tuple #[.slice none 0 0, .int .i64 2]) (by simp [results, go_sem]) rfl ⟨none, 0, 0, by rw [HRE.out]; rfl, by rw [HRE.out]; rfl, by rw [HRE.out]; exact Its.nil _ _, Below.refl _ _⟩
  ·rw [if_neg h20] at hre
   have h20i : ((2000 : Int) < (n : Int)) = False := eq_false (by omega)
   obtain ⟨A2, hA2⟩ : ∃ A2, (if c = sz then A else Option.map (fun x => x.add sz) A) = A2 := ⟨_, rfl⟩
   have hr2 := row_from hr (s := sz) (by omega) (A' := A2) (fun hlt => by rw [← hA2, if_neg (by omega)])
   have hszn : sz ≤ N := by omega
   have hszni : (sz : Int) ≤ (N : Int) := by omega
   have hszc : sz ≤ c := by omega
   have hszci : (sz : Int) ≤ (c : Int) := by omega
   have HRE := Lib.hid hre
   have HR2 := Lib.hid hr2
   clear htk hre hsz hr hr2 hszl
   go_enter Tryz.func187, Tryz.ntmps187
   go_wp2_with fail
   refine HTK.out.mono ?_
   rintro e w1 ⟨rfl, hw1⟩
   subst hw1
   clear HTK
   go_wp2_with fail
   go_loopw [0, 7, 28] (fun bv o i wr => ∃ (k m : Nat) (A3 : Option Addr) (c3 : Nat) (r : List UInt8) (out : List It) (A4 : Option Addr) (c4 : Nat), k ≤ n ∧ bv = .slice A3 m c3 ∧ o = .slice A4 k c4 ∧ i = .int .u64 (k : Int) ∧ Hid (It.takes n (b.drop sz) [] = It.takes (n - k) r out ∧ out.length = k ∧ Row w.heap.size wr A3 m 1 (bts r) ∧ m ≤ c3 ∧ c3 ≤ maxLen ∧ m ≤ N ∧ wr.ownsRow w.heap.size 41 5 (.slice A4 k c4) k (itc out)) ∧ Below w.heap.size w wr) (fun _ _ i _ => n - (intOf i).toNat)
   case atStart => exact ⟨0, N - sz, A2, c - sz, b.drop sz, [], none, 0, Nat.zero_le _, rfl, rfl, rfl, Lib.hid ⟨rfl, rfl, HR2.out, by omega, by unfold maxLen at *; omega, by omega, World.ownsRow_nil _ _ _ _⟩, Below.refl _ _⟩
   case round =>
    obtain ⟨k, m, A3, c3, r, out, A4, c4, hkn, rfl, rfl, rfl, HK, hbl⟩ := hrel
    by_cases hk : k < n
    ·have hki : (k : Int) < (n : Int) := by omega
     have hwk : IntKind.u64.wrap ((k : Int) + 1) = ((k + 1 : Nat) : Int) := by rw [IntKind.wrap_u64]; omega
     obtain ⟨h1, h2, h3, h4, h5, h6, h7⟩ := HK.out
     have hon := one_any A3 m c3 r wr (by omega) h4 h5 w.heap.size hbl.size h3
     rw [show n - k = (n - (k + 1)) + 1 by omega, It.takes_step] at h1
     have hb1 := fun w' => own_below (w' := w') h7
     generalize It.take1 r = Q at *
     obtain ⟨x, r2, er⟩ := Q
     simp only at h1
     have HON := Lib.hid hon
     have H1 := Lib.hid h1
     have HB1 := Lib.hid hb1
     clear hon h1 h3 h7 hb1
     go_wp2_with fail
     refine HON.out.mono ?_
     rintro e w2 ⟨A5, m5, c5, rfl, z1, z5, z2, z3, z4⟩
     have ho2 := HB1.out _ z4
     have hb2 := hbl.trans (z4.mono hbl.size)
     by_cases he : er = 0
     ·subst he
      have h1 := H1.out
      rw [if_pos rfl] at h1
      have hz4 := z4.mono hbl.size
      have hX1 := hz4.alloc hb2.size (.cells #[.int .i64 x.s, .int .i64 x.k, .int .u64 (x.t : Int), .int .u64 (x.v : Int), .int .i64 x.x] 41)
      have ho1 := ho2.alloc (.cells #[.int .i64 x.s, .int .i64 x.k, .int .u64 (x.t : Int), .int .u64 (x.v : Int), .int .i64 x.x] 41)
      have hx1 : BoxO (w2.alloc (.cells #[.int .i64 x.s, .int .i64 x.k, .int .u64 (x.t : Int), .int .u64 (x.v : Int), .int .i64 x.x] 41)) 41 w2.heap.size x.cells := BoxO.new w2 #[.int .i64 x.s, .int .i64 x.k, .int .u64 (x.t : Int), .int .u64 (x.v : Int), .int .i64 x.x] 41
      have b0 := hx1.cell 0
      have b1 := hx1.cell 1
      have b2 := hx1.cell 2
      have b3 := hx1.cell 3
      have b4 := hx1.cell 4
      simp only [It.cells, List.getElem?_cons_zero, List.getElem?_cons_succ] at b0 b1 b2 b3 b4
      have hsz1 : (w2.alloc (.cells #[.int .i64 x.s, .int .i64 x.k, .int .u64 (x.t : Int), .int .u64 (x.v : Int), .int .i64 x.x] 41)).heap.size = w2.heap.size + 1 := by simp
      have hX2 := hX1.alloc (by have := hb2.size; omega) (.cells #[.int .i64 x.s, .int .i64 x.k, .int .u64 (x.t : Int), .int .u64 (x.v : Int), .int .i64 x.x] 41)
      have ho3 := ho1.alloc (.cells #[.int .i64 x.s, .int .i64 x.k, .int .u64 (x.t : Int), .int .u64 (x.v : Int), .int .i64 x.x] 41)
      have hx2 : BoxO ((w2.alloc (.cells #[.int .i64 x.s, .int .i64 x.k, .int .u64 (x.t : Int), .int .u64 (x.v : Int), .int .i64 x.x] 41)).alloc (.cells #[.int .i64 x.s, .int .i64 x.k, .int .u64 (x.t : Int), .int .u64 (x.v : Int), .int .i64 x.x] 41)) 41 (w2.heap.size + 1) x.cells := by rw [← hsz1]; exact BoxO.new _ #[.int .i64 x.s, .int .i64 x.k, .int .u64 (x.t : Int), .int .u64 (x.v : Int), .int .i64 x.x] 41
      have hsz2 : ((w2.alloc (.cells #[.int .i64 x.s, .int .i64 x.k, .int .u64 (x.t : Int), .int .u64 (x.v : Int), .int .i64 x.x] 41)).alloc (.cells #[.int .i64 x.s, .int .i64 x.k, .int .u64 (x.t : Int), .int .u64 (x.v : Int), .int .i64 x.x] 41)).heap.size = w2.heap.size + 1 + 1 := by simp
      have HR := Lib.hid (irow_box hx2)
      have HO := Lib.hid ho3
      have HB := Lib.hid hX2
      have HS2 := Lib.hid (And.intro hsz2 hb2.size)
      have HZ := Lib.hid (And.intro z1 (And.intro z2 h1))
      have hitc : itc out ++ x.cells = itc (out ++ [x]) := by simp [itc]
      have HX := Lib.hid hitc
      have hk2 : k ≤ 2000 := by omega
      have H2 := Lib.hid h2
      clear hz4 hX1 ho1 hx1 hX2 ho3 hx2 hsz1 hsz2 ho2 hb2 z1 z4 h1 hitc H1 HB1 h2
      unfold It.val
      go_wp2_with (at_builtin; refine stop_in ?_)
      refine stop_out (wpList_app rfl (.tmp 39) (.tmp 41) _ rfl w.heap.size 41 i0 _ 5 40 Tryz.underlying38 hi0 hz0 hz1 hz2 rfl (by omega) wr HB.out (Nat.le_trans hbl.size HB.out.size) _ k (itc out) rfl HO.out _ _ 1 1 x.cells rfl HR.out (fun v hv => itc_one [x] v (by simpa [itc] using hv)) (k + 1) _ rfl HX.out (by unfold maxLen; omega) (by omega) ?_)
      intro A6 c6 w5 q1 q2 q3 q4 q5
      have HF := Lib.hid (And.intro q1 (HZ.out.1.below q2))
      have hbz := hbl.trans q2
      clear q1 q2 q3 HR HO HB b0 b1 b2 b3 b4
      go_wp2
      go_roundw
      case rel => exact ⟨k + 1, m5, A5, c5, r2, out ++ [x], A6, c6, by omega, rfl, rfl, by go_num, Lib.hid ⟨HZ.out.2.2, by rw [List.length_append, H2.out]; rfl, HF.out.2, HZ.out.2.1, by omega, by omega, HF.out.1⟩, hbz⟩
      case measure => simp [intOf]; omega
     ·have h1 := H1.out
      rw [if_neg he] at h1
      have he3 : ((er : Int) == 0) = false := by simp; omega
      have hR : R = ([], er) := by
       have := HRE.out
       rw [h1] at this
       rw [this, if_neg he]
      have HRR := Lib.hid hR
      clear h1 z1 z4 ho2 hR HON
      unfold It.val
      go_wp2
      refine bodyPost_ret (v := .tuple #[.slice none 0 0, .int .i64 (er : Int)]) (by simp [results, go_sem]) rfl ⟨none, 0, 0, by rw [HRR.out], by rw [HRR.out]; rfl, by rw [HRR.out]; exact Its.nil _ _, ?_⟩
      exact hb2.alloc hb2.size _
    ·obtain rfl : k = n := by omega
     have hki : ((k : Int) < (k : Int)) = False := eq_false (by omega)
     obtain ⟨h1, h2, h3, h4, h5, h6, h7⟩ := HK.out
     rw [Nat.sub_self] at h1
     have hre : R = if r = [] ∧ out.all It.ok = true then (out, 0) else ([], 3) := by
      have := HRE.out
      rw [h1] at this
      exact this
     have hrl := h3.btlen
     by_cases hm : 0 < m
     ·have hmi : (0 : Int) < (m : Int) := by omega
      rw [if_neg (fun h => by rw [h.1] at hrl; simp at hrl; omega)] at hre
      have HRR := Lib.hid hre
      clear h1 hre h3 h7
      go_wp2
      refine bodyPost_ret (v := .tuple #[.slice none 0 0, .int .i64 3]) (by simp [results, go_sem]) rfl ⟨none, 0, 0, by rw [HRR.out]; rfl, by rw [HRR.out]; rfl, by rw [HRR.out]; exact Its.nil _ _, hbl⟩
     ·have hmi : ((0 : Int) < (m : Int)) = False := eq_false (by omega)
      have hr0 : r = [] := List.length_eq_zero_iff.1 (by omega)
      have hal := iall_any A4 k c4 out wr (by omega) (Row.own h7)
      obtain ⟨ab, hab⟩ : ∃ ab, ab = out.all It.ok := ⟨_, rfl⟩
      rw [← hab] at hal hre
      simp only [hr0, true_and] at hre
      have HAL := Lib.hid hal
      obtain ⟨A5, c5, hv, hqc, hqm, hlow⟩ := own_form h7
      injection hv with e1 e2 e3
      subst e1 e3
      have h7b := fun w' => own_below (w' := w') h7
      have H7 := Lib.hid (And.intro h7b (And.intro hqc (And.intro hqm hlow)))
      have H2 := Lib.hid h2
      clear h1 h3 h7 h7b hal hab hlow hqc hqm h2
      cases ab with
      | true =>
       rw [if_pos rfl] at hre
       have HRR := Lib.hid hre
       clear hre
       go_wp2_with fail
       refine HAL.out.mono ?_
       rintro e w2 ⟨rfl, hb2⟩
       have hits : Its w.heap.size w2 A4 k c4 out := ⟨Row.own (H7.out.1 _ hb2), H7.out.2.1, H7.out.2.2.1, fun p hp => (H7.out.2.2.2 p hp).1⟩
       have HI := Lib.hid (And.intro hits (hbl.trans (hb2.mono hbl.size)))
       clear hits hb2 HAL H7
       go_wp2
       refine bodyPost_ret (v := .tuple #[.slice A4 k c4, .int .i64 0]) (by simp [results, go_sem]) rfl ⟨A4, k, c4, by rw [HRR.out]; rfl, by rw [HRR.out]; exact H2.out.symm, by rw [HRR.out]; exact HI.out.1, HI.out.2⟩
      | false =>
       rw [if_neg (by simp)] at hre
       have HRR := Lib.hid hre
       clear hre
       go_wp2_with fail
       refine HAL.out.mono ?_
       rintro e w2 ⟨rfl, hb2⟩
       have HI := Lib.hid (hbl.trans (hb2.mono hbl.size))
       clear hb2 HAL H7
       go_wp2
       refine bodyPost_ret (v := .tuple #[.slice none 0 0, .int .i64 3]) (by simp [results, go_sem]) rfl ⟨none, 0, 0, by rw [HRR.out]; rfl, by rw [HRR.out]; rfl, by rw [HRR.out]; exact Its.nil _ _, HI.out⟩
 ·rw [if_neg he] at hre
  have he3 : ((er : Int) == 0) = false := by simp; omega
  have HRE := Lib.hid hre
  clear htk hre hsz hr
  go_enter Tryz.func187, Tryz.ntmps187
  go_wp2_with fail
  refine HTK.out.mono ?_
  rintro e w1 ⟨rfl, hw1⟩
  subst hw1
  clear HTK
  go_wp2
  refine bodyPost_ret (v := .tuple #[.slice none 0 0, .int .i64 (er : Int)]) (by simp [results, go_sem]) rfl ⟨none, 0, 0, by rw [HRE.out], by rw [HRE.out]; rfl, by rw [HRE.out]; exact Its.nil _ _, Below.refl _ _⟩
end Go.Proofs.YtpdaolongmgmgaaGreatDoor
