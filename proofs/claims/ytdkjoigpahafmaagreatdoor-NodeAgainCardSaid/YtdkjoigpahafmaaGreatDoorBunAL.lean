/- Texts Apply, EditJ, BloomB, TableA, PlainFit, TableB, ManH in one. No conditions. -/
import Derived.Test.YtdkjoigpahafmaaGreatDoorBunAA
import Derived.Test.YtdkjoigpahafmaaGreatDoorBunAG
import Derived.Test.YtdkjoigpahafmaaGreatDoorBunAD
import Derived.Test.YtdkjoigpahafmaaGreatDoorBunAB
import Derived.Test.YtdkjoigpahafmaaGreatDoorBunAJ
import Derived.Deep.RegionLaw
import Derived.Deep.RegionHeld3
import Derived.Test.YtdkjoigpahafmaaGreatDoorBunAK
import Derived.StillTailTactics

set_option linter.unusedSimpArgs false
set_option linter.unusedVariables false
set_option maxRecDepth 100000
set_option maxHeartbeats 16000000
namespace Go.Proofs.YtdkjoigpahafmaaGreatDoor
section
open Go Go.RowKit
structure Fresh (B : Nat) (w : World) (A : Option Addr) (n c : Nat) (fs : List (Int × Int)) : Prop where
 row : Row w.heap.size w A n 2 (fcells fs)
 nc : n ≤ c
 cm : c ≤ maxLen
 low : ∀ a, A = some a → B ≤ a.block
def ApPost (w : World) (o : Option Vw) (x : Ending) (w' : World) : Prop :=
 Below w.heap.size w w' ∧ match o with
 | none => x = .returned (.tuple #[Vw.none_.val none 0 0, .bool false])
 | some u => ∃ A N c, x = .returned (.tuple #[u.val A N c, .bool true]) ∧ Fresh w.heap.size w' A N c u.files
def drop1 (n : Int) (fs : List (Int × Int)) : Option (List (Int × Int)) := if fs.any (fun f => f.2 == n) then some (fs.eraseP fun f => f.2 == n) else none
theorem dropAll_app : ∀ (a b : List Int) (fs : List (Int × Int)), dropAll (a ++ b) fs = (dropAll a fs).bind (dropAll b)
 | [], b, fs => rfl
 | n :: r, b, fs => by
  simp only [List.cons_append, dropAll]
  split
  ·exact dropAll_app r b _
  ·rfl
theorem dropAll_take {ds : List Int} {k : Nat} (h : k < ds.length) (fs : List (Int × Int)) : dropAll (ds.take (k + 1)) fs = (dropAll (ds.take k) fs).bind (drop1 ds[k]) := by
 rw [List.take_succ_eq_append_getElem h, dropAll_app]
 congr 1
theorem dropAll_stop {ds : List Int} {k : Nat} {fs : List (Int × Int)} (h : dropAll (ds.take k) fs = none) : dropAll ds fs = none := by
 rw [← List.take_append_drop k ds, dropAll_app, h]
 rfl
theorem eraseP_at {P : Int × Int → Bool} {fs : List (Int × Int)} {i : Nat} (hi : i < fs.length) (h : fs.findIdx P = i) : fs.eraseP P = fs.eraseIdx i := by
 rw [List.eraseP_eq_eraseIdx]
 have : fs.findIdx? P = some i := by
  rw [List.findIdx?_eq_some_iff_findIdx_eq]
  exact ⟨hi, h⟩
 rw [this]
theorem app_none {v : Vw} {e : Ed} (h : dropAll e.drop v.files = none) : v.app e = none := by unfold Vw.app; rw [h]
def Vw.mix (v : Vw) (e : Ed) (fs : List (Int × Int)) : Vw := ⟨if e.log = 0 then v.log else e.log, fs ++ e.add, orElse e.floor v.floor, orElse e.cert v.cert, orElse e.at_ v.at_, orElse e.lease v.lease⟩
theorem app_some {v : Vw} {e : Ed} {fs : List (Int × Int)} (h : dropAll e.drop v.files = some fs) : v.app e = if (v.mix e fs).ok = true then some (v.mix e fs) else none := by unfold Vw.app; rw [h]; rfl
theorem own_fresh {base B : Nat} {w : World} {A : Option Addr} {n c : Nat} {fs : List (Int × Int)} (h : w.ownsRow base 166 2 (.slice A n c) n (fcells fs)) (hB : B ≤ base) : Fresh B w A n c fs := by
 obtain ⟨_, _, hsl, hnc, hcm, hbs⟩ := own_form h
 injection hsl with h1 h2 h3
 subst h1 h3
 exact ⟨Row.own h, hnc, hcm, fun a ha => Nat.le_trans hB (hbs a ha).1⟩
theorem Fresh.below {B n c : Nat} {w w' : World} {A : Option Addr} {fs : List (Int × Int)} (h : Fresh B w A n c fs) (hb : Below w.heap.size w w') : Fresh B w' A n c fs := ⟨(h.row.below hb).up hb.size, h.nc, h.cm, h.low⟩
theorem Fresh.chg {B n c : Nat} {w w' : World} {A : Option Addr} {fs : List (Int × Int)} {G : List Nat} (h : Fresh B w A n c fs) (k : Chg G w w') (hg : ∀ a, A = some a → a.block ∉ G) : Fresh B w' A n c fs := ⟨(k.row h.row (Nat.le_refl _) hg).up k.size, h.nc, h.cm, h.low⟩
theorem clip_any (A : Option Addr) (n c : Nat) (w : World) (hn : n ≤ c) (_hc : c ≤ maxLen) : Calls Tryz.prog 240 #[.slice A n c] w fun e w' => e = .returned (.slice A n n) ∧ w = w' := by
 go_enter Tryz.func240, Tryz.ntmps240
 go_wp2
 go_ret
 exact ⟨rfl, rfl⟩
theorem apply_gen (v : Vw) (A0 : Option Addr) (n0 c0 : Nat) (e : Ed) (D : Option Addr) (m d : Nat) (A2 : Option Addr) (n2 c2 : Nat) (w : World) (hn0 : n0 ≤ 100000) (hm : m ≤ 100000) (hn2 : n2 ≤ 100000)
  (hrv : Row w.heap.size w A0 n0 2 (fcells v.files)) (hrd : Row w.heap.size w D m 1 (icells e.drop)) (hra : Row w.heap.size w A2 n2 2 (fcells e.add)) :
  Calls Tryz.prog 192 #[v.val A0 n0 c0, e.val D m d A2 n2 c2] w (ApPost w (v.app e)) := by
 obtain ⟨i0, hi0, hz0, hz1, hz2⟩ := info_parts info_file
 have hap1 := fun h => app_none (v := v) (e := e) h
 have hap2 := fun fs h => app_some (v := v) (e := e) (fs := fs) h
 generalize hAP : v.app e = AP at *
 have HAP1 := Lib.hid hap1
 have HAP2 := Lib.hid hap2
 clear hap1 hap2 hAP
 have hdt := fun (k : Nat) (h : k < e.drop.length) => dropAll_take h v.files
 have hds := fun (k : Nat) h => dropAll_stop (ds := e.drop) (k := k) (fs := v.files) h
 have hdl := hrd.ilen
 have hvl := hrv.flen
 have hal := hra.flen
 have HDT := Lib.hid hdt
 have HDS := Lib.hid hds
 clear hdt hds
 unfold Vw.mix at HAP2
 unfold Vw.val Ed.val
 obtain ⟨g, fs0, f, c, a, l⟩ := v
 obtain ⟨ds, ad, G, F, C, AA, L⟩ := e
 simp only at hrv hrd hra HAP1 HAP2 hdl hvl hal HDT HDS ⊢
 go_enter Tryz.func192, Tryz.ntmps192
 go_wp2_with (at_builtin; refine stop_in ?_)
 have hbw : Below w.heap.size w ((((w.alloc (.cells #[.int .i64 g, .slice A0 n0 c0, .int .u64 (f : Int), .int .u64 (c : Int), .int .u64 (a : Int), .int .u64 (l : Int)] 134)).alloc (.cells #[.slice D m d, .slice A2 n2 c2, .int .i64 G, .int .u64 (F : Int), .int .u64 (C : Int), .int .u64 (AA : Int), .int .u64 (L : Int)] 163)).alloc (.cells #[.int .i64 0, .slice none 0 0, .int .u64 0, .int .u64 0, .int .u64 0, .int .u64 0] 134)).alloc (.cells #[.int .i64 g, .slice A0 n0 c0, .int .u64 (f : Int), .int .u64 (c : Int), .int .u64 (a : Int), .int .u64 (l : Int)] 134)) := ((((Below.refl _ _).alloc (Nat.le_refl _) _).alloc (by simp) _).alloc (by simp; omega) _).alloc (by simp; omega) _
 have hE := (((BoxO.new (w.alloc (.cells #[.int .i64 g, .slice A0 n0 c0, .int .u64 (f : Int), .int .u64 (c : Int), .int .u64 (a : Int), .int .u64 (l : Int)] 134)) #[.slice D m d, .slice A2 n2 c2, .int .i64 G, .int .u64 (F : Int), .int .u64 (C : Int), .int .u64 (AA : Int), .int .u64 (L : Int)] 163).alloc (.cells #[.int .i64 0, .slice none 0 0, .int .u64 0, .int .u64 0, .int .u64 0, .int .u64 0] 134)).alloc (.cells #[.int .i64 g, .slice A0 n0 c0, .int .u64 (f : Int), .int .u64 (c : Int), .int .u64 (a : Int), .int .u64 (l : Int)] 134))
 have hR := ((BoxO.new ((w.alloc (.cells #[.int .i64 g, .slice A0 n0 c0, .int .u64 (f : Int), .int .u64 (c : Int), .int .u64 (a : Int), .int .u64 (l : Int)] 134)).alloc (.cells #[.slice D m d, .slice A2 n2 c2, .int .i64 G, .int .u64 (F : Int), .int .u64 (C : Int), .int .u64 (AA : Int), .int .u64 (L : Int)] 163)) #[.int .i64 0, .slice none 0 0, .int .u64 0, .int .u64 0, .int .u64 0, .int .u64 0] 134).alloc (.cells #[.int .i64 g, .slice A0 n0 c0, .int .u64 (f : Int), .int .u64 (c : Int), .int .u64 (a : Int), .int .u64 (l : Int)] 134))
 have hO := BoxO.new (((w.alloc (.cells #[.int .i64 g, .slice A0 n0 c0, .int .u64 (f : Int), .int .u64 (c : Int), .int .u64 (a : Int), .int .u64 (l : Int)] 134)).alloc (.cells #[.slice D m d, .slice A2 n2 c2, .int .i64 G, .int .u64 (F : Int), .int .u64 (C : Int), .int .u64 (AA : Int), .int .u64 (L : Int)] 163)).alloc (.cells #[.int .i64 0, .slice none 0 0, .int .u64 0, .int .u64 0, .int .u64 0, .int .u64 0] 134)) #[.int .i64 g, .slice A0 n0 c0, .int .u64 (f : Int), .int .u64 (c : Int), .int .u64 (a : Int), .int .u64 (l : Int)] 134
 simp only [World.size_alloc] at hE hR hO
 have hsz : ((((w.alloc (.cells #[.int .i64 g, .slice A0 n0 c0, .int .u64 (f : Int), .int .u64 (c : Int), .int .u64 (a : Int), .int .u64 (l : Int)] 134)).alloc (.cells #[.slice D m d, .slice A2 n2 c2, .int .i64 G, .int .u64 (F : Int), .int .u64 (C : Int), .int .u64 (AA : Int), .int .u64 (L : Int)] 163)).alloc (.cells #[.int .i64 0, .slice none 0 0, .int .u64 0, .int .u64 0, .int .u64 0, .int .u64 0] 134)).alloc (.cells #[.int .i64 g, .slice A0 n0 c0, .int .u64 (f : Int), .int .u64 (c : Int), .int .u64 (a : Int), .int .u64 (l : Int)] 134)).heap.size = w.heap.size + 1 + 1 + 1 + 1 := by simp
 refine stop_out (wpList_app0 rfl _ (.tmp 14) _ rfl (w.heap.size + 1 + 1 + 1 + 1) 166 i0 _ 2 16 Tryz.underlying132 hi0 hz0 hz1 hz2 rfl (by omega) ((((w.alloc (.cells #[.int .i64 g, .slice A0 n0 c0, .int .u64 (f : Int), .int .u64 (c : Int), .int .u64 (a : Int), .int .u64 (l : Int)] 134)).alloc (.cells #[.slice D m d, .slice A2 n2 c2, .int .i64 G, .int .u64 (F : Int), .int .u64 (C : Int), .int .u64 (AA : Int), .int .u64 (L : Int)] 163)).alloc (.cells #[.int .i64 0, .slice none 0 0, .int .u64 0, .int .u64 0, .int .u64 0, .int .u64 0] 134)).alloc (.cells #[.int .i64 g, .slice A0 n0 c0, .int .u64 (f : Int), .int .u64 (c : Int), .int .u64 (a : Int), .int .u64 (l : Int)] 134)) (Below.refl _ _) (by rw [hsz]; exact Nat.le_refl _) rfl w.heap.size A0 n0 c0 (fcells fs0) rfl (hrv.below hbw) (fcells_one _) (by unfold maxLen; omega) (by omega) ?_)
 intro A1 k1 w1 ho1 hb1 hg1 hk1 hm1
 have hbl1 : Below w.heap.size w w1 := hbw.trans (hb1.mono (by omega))
 have hE1 : BoxO w1 _ _ _ := (hb1.block (w.heap.size + 1) (by omega)).trans hE
 have hR1 : BoxO w1 _ _ _ := (hb1.block (w.heap.size + 1 + 1) (by omega)).trans hR
 have hO1 : BoxO w1 _ _ _ := (hb1.block (w.heap.size + 1 + 1 + 1) (by omega)).trans hO
 clear hbw hE hR hO hsz hb1 hg1
 have q0 := hO1.cell 1
 have z0 := hO1.free 1
 have p0 := hE1.cell 0
 simp only [gE0, gE1] at q0 p0
 have hlt1 := hO1.lt
 have hO2 := hO1.store 1 (.slice A1 n0 k1)
 have hch := chg_set w1 ⟨w.heap.size + 1 + 1 + 1, 1, none⟩ (.slice A1 n0 k1)
 have hE2 := hE1.chg hch (by simp)
 have hR2 := hR1.chg hch (by simp)
 have hbl2 := hbl1.setCell (p := ⟨w.heap.size + 1 + 1 + 1, 1, none⟩) (by simp; omega) (.slice A1 n0 k1)
 have ho2 := own_chg ho1 hch (fun g hg h => by
  have := (ho1.lt g hg).1
  simp at h
  omega)
 simp only [List.set_cons_succ, List.set_cons_zero] at hO2
 clear hO1 hE1 hR1 hbl1 ho1 hch
 go_wp2_with fail
 clear q0 z0 p0
 generalize w1.setCell ⟨w.heap.size + 1 + 1 + 1, 1, none⟩ (.slice A1 n0 k1) = W at *
 go_loopw [20] (fun i wr => ∃ (k N cp : Nat) (A' : Option Addr) (fs : List (Int × Int)), k ≤ m ∧ i = .int .i64 (k : Int) ∧ Hid (dropAll (ds.take k) fs0 = some fs) ∧ N ≤ n0 ∧ BoxO wr 134 (w.heap.size + 1 + 1 + 1) [.int .i64 g, .slice A' N cp, .int .u64 (f : Int), .int .u64 (c : Int), .int .u64 (a : Int), .int .u64 (l : Int)] ∧ wr.ownsRow (w.heap.size + 1 + 1 + 1 + 1) 166 2 (.slice A' N cp) N (fcells fs) ∧ BoxO wr 163 (w.heap.size + 1) [.slice D m d, .slice A2 n2 c2, .int .i64 G, .int .u64 (F : Int), .int .u64 (C : Int), .int .u64 (AA : Int), .int .u64 (L : Int)] ∧ BoxO wr 134 (w.heap.size + 1 + 1) [.int .i64 0, .slice none 0 0, .int .u64 0, .int .u64 0, .int .u64 0, .int .u64 0] ∧ Below w.heap.size w wr) (fun i _ => m - (intOf i).toNat)
 case atStart => exact ⟨0, n0, k1, A1, fs0, Nat.zero_le _, rfl, Lib.hid rfl, Nat.le_refl _, hO2, ho2, hE2, hR2, hbl2⟩
 case round =>
  obtain ⟨k, N, cp, A', fs, hk, rfl, hdr, hN, hO, ho, hE, hR, hbl⟩ := hrel
  clear hO2 hE2 hR2 hbl2 ho2
  obtain ⟨_, _, hsl, hNc, hcm, hbs⟩ := own_form ho
  injection hsl with hsl1 hsl2 hsl3
  subst hsl1 hsl3
  clear hsl2
  have q1 := hO.cell 1
  have z1 := hO.free 1
  simp only [gE0, gE1] at q1
  have hltO := hO.lt
  by_cases hlt : k < m
  ·obtain ⟨da, hl, rfl, hdb, hdc⟩ := (hrd.below hbl).int_ hlt
   have hd1 := HDT.out k hl
   rw [hdr.out] at hd1
   have hsp := HDS.out (k + 1)
   generalize ds[k] = x at *
   have HD1 : Hid (dropAll (ds.take (k + 1)) fs0 = drop1 x fs) := Lib.hid hd1
   have HSP := Lib.hid hsp
   clear hd1 hsp hdr hl
   have hfl := (Row.own ho).flen
   have hrA := (Row.own ho).alloc (Nat.le_refl _) (.cells #[.int .i64 x] 3)
   have hXc : (wr.alloc (.cells #[.int .i64 x] 3)).cell? ⟨wr.heap.size, 0, none⟩ = some (.int .i64 x) := (BoxO.new wr #[.int .i64 x] 3).cell 0
   have hbA := (Below.refl wr.heap.size wr).alloc (Nat.le_refl _) (.cells #[.int .i64 x] 3)
   have hfx := fidx_cap 238 (fun _ _ => rfl) ⟨wr.heap.size, 0, none⟩ (fun f => f.2 == x) A' N cp fs (wr.alloc (.cells #[.int .i64 x] 3)) (by omega) (hrA.up (by simp)) (fun f w2 hb2 => apc_any f ⟨wr.heap.size, 0, none⟩ x w2 ((hb2.cell (p := ⟨wr.heap.size, 0, none⟩) (by simp)).trans hXc))
   have hO' := hO.alloc (.cells #[.int .i64 x] 3)
   have hE' := hE.alloc (.cells #[.int .i64 x] 3)
   have hR' := hR.alloc (.cells #[.int .i64 x] 3)
   have ho' := ho.alloc (.cells #[.int .i64 x] 3)
   have hbl' := later_ hbl hbA
   clear hrA hXc hbA hO hE hR ho hbl
   cases hany : fs.any (fun f => f.2 == x) with
   | false =>
    rw [fidx_none hany] at hfx
    have hno : AP = none := HAP1.out (HSP.out (by rw [HD1.out, drop1, hany]; rfl))
    have HNO := Lib.hid hno
    clear hno hany
    go_wp2_with fail
    refine hfx.mono ?_
    rintro e w2 ⟨rfl, hb2⟩
    have hRz := hR'.below hb2
    have hbz := later_ hbl' hb2
    have r0 := hRz.cell 0
    have r1 := hRz.cell 1
    have r2 := hRz.cell 2
    have r3 := hRz.cell 3
    have r4 := hRz.cell 4
    have r5 := hRz.cell 5
    have y0 := hRz.free 0
    have y1 := hRz.free 1
    have y2 := hRz.free 2
    have y3 := hRz.free 3
    have y4 := hRz.free 4
    have y5 := hRz.free 5
    simp only [gE0, gE1] at r0 r1 r2 r3 r4 r5
    clear hfx hb2 hO' hE' hR' ho' hbl' q1 z1 hRz
    go_wp2_with fail
    refine bodyPost_ret (v := .tuple #[.agg #[.int .i64 0, .slice none 0 0, .int .u64 0, .int .u64 0, .int .u64 0, .int .u64 0], .bool false]) (by simp [results, go_sem, *]) rfl ?_
    unfold ApPost
    rw [HNO.out]
    exact ⟨(((((hbz.setCell (by simp; omega) _).setCell (by simp; omega) _).setCell (by simp; omega) _).setCell (by simp; omega) _).setCell (by simp; omega) _).setCell (by simp; omega) _, rfl⟩
   | true =>
    obtain ⟨i, hfi, hil, hpi, hix⟩ := fidx_lt hany
    rw [hfi] at hfx
    have hiN : i < N := by omega
    have her := eraseP_at hil hix
    have hd2 : dropAll (ds.take (k + 1)) fs0 = some (fs.eraseIdx i) := by rw [HD1.out, drop1, hany, if_pos rfl, her]
    have HD2 := Lib.hid hd2
    clear hfi hpi hix her hd2 hany HD1 HSP
    go_wp2_with fail
    refine hfx.mono ?_
    rintro e w2 ⟨rfl, hb2⟩
    have hO3 := hO'.below hb2
    have hE3 := hE'.below hb2
    have hR3 := hR'.below hb2
    have ho3 := own_below ho' hb2
    have hbl3 := later_ hbl' hb2
    clear hfx hb2 hO' hE' hR' ho' hbl' q1 z1
    rcases ho3.2 with ⟨hv, h0⟩ | ⟨gg, cap, cur, hv, hgb, hgh, _⟩
    ·omega
    injection hv with hv1 hv2 hv3
    subst hv1 hv3
    clear hv2
    have hggl : gg < w2.heap.size := (Array.getElem?_eq_some_iff.1 hgh).1
    have q1 := hO3.cell 1
    simp only [gE0, gE1] at q1
    have hdel := fdel_any (w.heap.size + 1 + 1 + 1 + 1) gg N cp i fs w2 ho3 hiN
    clear hgh ho3
    go_wp2_with fail
    refine hdel.mono ?_
    rintro e w3 ⟨rfl, ho4, hc4⟩
    have hO4 := hO3.chg hc4 (by simp; omega)
    have hE4 := hE3.chg hc4 (by simp; omega)
    have hR4 := hR3.chg hc4 (by simp; omega)
    have hbl4 := hbl3.trans (hc4.below hbl3.size (by intro q hq; simp at hq; omega))
    clear hdel hO3 hE3 hR3 hbl3 hc4 q1
    have q1 := hO4.cell 1
    have z1 := hO4.free 1
    simp only [gE0, gE1] at q1
    have hch := chg_set w3 ⟨w.heap.size + 1 + 1 + 1, 1, none⟩ (.slice (some ⟨gg, 0, none⟩) (N - 1) cp)
    have hO5 := hO4.store 1 (.slice (some ⟨gg, 0, none⟩) (N - 1) cp)
    simp only [List.set_cons_succ, List.set_cons_zero] at hO5
    have hE5 := hE4.chg hch (by simp)
    have hR5 := hR4.chg hch (by simp)
    have ho5 := own_chg ho4 hch (fun q hq h => by
     have := (ho4.lt q hq).1
     simp at h
     omega)
    have hbl5 := hbl4.setCell (p := ⟨w.heap.size + 1 + 1 + 1, 1, none⟩) (by simp; omega) (.slice (some ⟨gg, 0, none⟩) (N - 1) cp)
    clear hO4 hE4 hR4 ho4 hbl4 hch
    go_wp2_with fail
    go_roundw
    case rel => exact ⟨k + 1, N - 1, cp, some ⟨gg, 0, none⟩, fs.eraseIdx i, by omega, by go_num, HD2, by omega, hO5, ho5, hE5, hR5, hbl5⟩
    case measure => simp [intOf]; omega
  ·obtain rfl : m = k := by omega
   have hdall : dropAll ds fs0 = some fs := by have h := hdr.out; rwa [List.take_of_length_le (by omega)] at h
   have hap := HAP2.out fs hdall
   have HAP := Lib.hid hap
   clear hdall hap hdr HAP1 HAP2 HDT HDS
   have p1 := hE.cell 1
   simp only [gE0, gE1] at p1
   go_wp2_with (at_builtin; refine stop_in ?_)
   refine stop_out (wpList_app rfl (.tmp 40) (.tmp 42) _ rfl (w.heap.size + 1 + 1 + 1 + 1) 166 i0 _ 2 16 Tryz.underlying132 hi0 hz0 hz1 hz2 rfl (by omega) wr (Below.refl _ _) (by omega) _ N (fcells fs) rfl ho w.heap.size A2 n2 c2 (fcells ad) rfl (hra.below hbl) (fcells_one _) (N + n2) (fcells (fs ++ ad)) rfl (fcells_app _ _).symm (by unfold maxLen; omega) (by omega) ?_)
   intro A3 c3 w3 ho3 hb3 hg3 hc3 hm3
   have hbl3 := hbl.trans (hb3.mono (by omega))
   have hE3 : BoxO w3 _ _ _ := (hb3.block _ (by omega)).trans hE
   have hR3 : BoxO w3 _ _ _ := (hb3.block _ (by omega)).trans hR
   have hO3 : BoxO w3 _ _ _ := (hb3.block _ (by omega)).trans hO
   have hF3 := own_fresh ho3 (Nat.le_refl _)
   clear ho hE hR hO hb3 hg3 q1 z1 p1 ho3
   go_wp2_with fail
   refine (clip_any A3 (N + n2) c3 w3 hc3 hm3).mono ?_
   rintro e w4 ⟨rfl, rfl⟩
   have q1 := hO3.cell 1
   have z1 := hO3.free 1
   simp only [gE0, gE1] at q1
   have hch := chg_set w3 ⟨w.heap.size + 1 + 1 + 1, 1, none⟩ (.slice A3 (N + n2) (N + n2))
   have hO5 := hO3.store 1 (.slice A3 (N + n2) (N + n2))
   simp only [List.set_cons_succ, List.set_cons_zero] at hO5
   have hE5 := hE3.chg hch (by simp)
   have hR5 := hR3.chg hch (by simp)
   have hF5 := hF3.chg hch (fun q hq h => by
    have := hF3.low q hq
    simp at h
    omega)
   have hbl5 := hbl3.setCell (p := ⟨w.heap.size + 1 + 1 + 1, 1, none⟩) (by simp; omega) (.slice A3 (N + n2) (N + n2))
   clear hO3 hE3 hR3 hbl3 hch hF3
   have p2 := hE5.cell 2
   simp only [gE0, gE1] at p2
   obtain ⟨g', hg'⟩ : ∃ g', g' = (if G = 0 then g else G) := ⟨_, rfl⟩
   have HG := Lib.hid hg'
   clear hg'
   go_upto_if 48 with (fail)
   generalize w3.setCell ⟨w.heap.size + 1 + 1 + 1, 1, none⟩ (.slice A3 (N + n2) (N + n2)) = W5 at *
   clear q1 z1 hNc hcm hbs
   go_cut [] (fun wx => BoxO wx 134 (w.heap.size + 1 + 1 + 1) [.int .i64 g', .slice A3 (N + n2) (N + n2), .int .u64 (f : Int), .int .u64 (c : Int), .int .u64 (a : Int), .int .u64 (l : Int)] ∧ BoxO wx 163 (w.heap.size + 1) [.slice D m d, .slice A2 n2 c2, .int .i64 G, .int .u64 (F : Int), .int .u64 (C : Int), .int .u64 (AA : Int), .int .u64 (L : Int)] ∧ BoxO wx 134 (w.heap.size + 1 + 1) [.int .i64 0, .slice none 0 0, .int .u64 0, .int .u64 0, .int .u64 0, .int .u64 0] ∧ Fresh (w.heap.size + 1 + 1 + 1 + 1) wx A3 (N + n2) c3 (fs ++ ad) ∧ Below w.heap.size w wx)
   case first =>
    by_cases hG : G = 0
    ·have e0 : (G != 0) = false := by simp [hG]
     have e1 : g' = g := by rw [HG.out, if_pos hG]
     subst e1
     subst hG
     clear HG e0
     go_wp2_with fail
     go_meet
     exact ⟨hO5, hE5, hR5, hF5, hbl5⟩
    ·have e0 : (G != 0) = true := by simpa using hG
     have e1 : g' = G := by rw [HG.out, if_neg hG]
     subst e1
     have q0 := hO5.cell 0
     have z0 := hO5.free 0
     simp only [gE0] at q0
     have hch := chg_set W5 ⟨w.heap.size + 1 + 1 + 1, 0, none⟩ (.int .i64 g')
     have hO6 := hO5.store 0 (.int .i64 g')
     simp only [List.set_cons_zero] at hO6
     have hE6 := hE5.chg hch (by simp)
     have hR6 := hR5.chg hch (by simp)
     have hF6 := hF5.chg hch (fun q hq h => by
      have := hF5.low q hq
      simp at h
      omega)
     have hbl6 := hbl5.setCell (p := ⟨w.heap.size + 1 + 1 + 1, 0, none⟩) (by simp; omega) (.int .i64 g')
     clear HG hG hch hO5 hE5 hR5 hF5 hbl5
     go_wp2_with fail
     go_meet
     exact ⟨hO6, hE6, hR6, hF6, hbl6⟩
   case rest =>
    obtain ⟨hO6, hE6, hR6, hF6, hbl6⟩ := hcut
    clear hO5 hE5 hR5 hF5 hbl5 p2
    have p3 := hE6.cell 3
    have p4 := hE6.cell 4
    have p5 := hE6.cell 5
    have p6 := hE6.cell 6
    simp only [gE0, gE1] at p3 p4 p5 p6
    have hlt6 := hO6.lt
    have hQ := BoxO.new wc #[.int .u64 (F : Int), .pointer (some ⟨w.heap.size + 1 + 1 + 1, 2, none⟩), .int .u64 (C : Int), .pointer (some ⟨w.heap.size + 1 + 1 + 1, 3, none⟩), .int .u64 (AA : Int), .pointer (some ⟨w.heap.size + 1 + 1 + 1, 4, none⟩), .int .u64 (L : Int), .pointer (some ⟨w.heap.size + 1 + 1 + 1, 5, none⟩)] 318
    have hO7 := hO6.alloc (.cells #[.int .u64 (F : Int), .pointer (some ⟨w.heap.size + 1 + 1 + 1, 2, none⟩), .int .u64 (C : Int), .pointer (some ⟨w.heap.size + 1 + 1 + 1, 3, none⟩), .int .u64 (AA : Int), .pointer (some ⟨w.heap.size + 1 + 1 + 1, 4, none⟩), .int .u64 (L : Int), .pointer (some ⟨w.heap.size + 1 + 1 + 1, 5, none⟩)] 318)
    have hR7 := hR6.alloc (.cells #[.int .u64 (F : Int), .pointer (some ⟨w.heap.size + 1 + 1 + 1, 2, none⟩), .int .u64 (C : Int), .pointer (some ⟨w.heap.size + 1 + 1 + 1, 3, none⟩), .int .u64 (AA : Int), .pointer (some ⟨w.heap.size + 1 + 1 + 1, 4, none⟩), .int .u64 (L : Int), .pointer (some ⟨w.heap.size + 1 + 1 + 1, 5, none⟩)] 318)
    have hF7 := hF6.below ((Below.refl wc.heap.size wc).alloc (Nat.le_refl _) (.cells #[.int .u64 (F : Int), .pointer (some ⟨w.heap.size + 1 + 1 + 1, 2, none⟩), .int .u64 (C : Int), .pointer (some ⟨w.heap.size + 1 + 1 + 1, 3, none⟩), .int .u64 (AA : Int), .pointer (some ⟨w.heap.size + 1 + 1 + 1, 4, none⟩), .int .u64 (L : Int), .pointer (some ⟨w.heap.size + 1 + 1 + 1, 5, none⟩)] 318))
    have hbl7 := hbl6.alloc hbl6.size (.cells #[.int .u64 (F : Int), .pointer (some ⟨w.heap.size + 1 + 1 + 1, 2, none⟩), .int .u64 (C : Int), .pointer (some ⟨w.heap.size + 1 + 1 + 1, 3, none⟩), .int .u64 (AA : Int), .pointer (some ⟨w.heap.size + 1 + 1 + 1, 4, none⟩), .int .u64 (L : Int), .pointer (some ⟨w.heap.size + 1 + 1 + 1, 5, none⟩)] 318)
    clear hO6 hR6 hF6 hbl6
    go_wp2_with fail
    clear p3 p4 p5 p6 hE6
    obtain ⟨qb, hqb⟩ : ∃ qb, qb = wc.heap.size := ⟨_, rfl⟩
    have hqo : w.heap.size + 1 + 1 + 1 < qb := by omega
    simp only [← hqb] at hQ ⊢
    change Code.wp _ _ _ _ (wc.alloc (.cells #[.int .u64 (F : Int), .pointer (some ⟨w.heap.size + 1 + 1 + 1, 2, none⟩), .int .u64 (C : Int), .pointer (some ⟨w.heap.size + 1 + 1 + 1, 3, none⟩), .int .u64 (AA : Int), .pointer (some ⟨w.heap.size + 1 + 1 + 1, 4, none⟩), .int .u64 (L : Int), .pointer (some ⟨w.heap.size + 1 + 1 + 1, 5, none⟩)] 318))
    generalize wc.alloc (.cells #[.int .u64 (F : Int), .pointer (some ⟨w.heap.size + 1 + 1 + 1, 2, none⟩), .int .u64 (C : Int), .pointer (some ⟨w.heap.size + 1 + 1 + 1, 3, none⟩), .int .u64 (AA : Int), .pointer (some ⟨w.heap.size + 1 + 1 + 1, 4, none⟩), .int .u64 (L : Int), .pointer (some ⟨w.heap.size + 1 + 1 + 1, 5, none⟩)] 318) = V at *
    have HQB := Lib.hid hqb
    clear hqb hlt6
    obtain ⟨f', hf'⟩ : ∃ x, orElse F f = x := ⟨_, rfl⟩
    obtain ⟨c', hc'⟩ : ∃ x, orElse C c = x := ⟨_, rfl⟩
    obtain ⟨a', ha'⟩ : ∃ x, orElse AA a = x := ⟨_, rfl⟩
    obtain ⟨l', hl'⟩ : ∃ x, orElse L l = x := ⟨_, rfl⟩
    have hap := HAP.out
    rw [hf', hc', ha', hl', ← HG.out] at hap
    have HAP2 := Lib.hid hap
    have HF := Lib.hid hf'
    have HC := Lib.hid hc'
    have HA := Lib.hid ha'
    have HL := Lib.hid hl'
    clear hap HAP hf' hc' ha' hl' HG
    go_loopw [70] (fun i wr => ∃ k x0 x1 x2 x3 : Nat, k ≤ 4 ∧ i = .int .i64 (k : Int) ∧ BoxO wr 134 (w.heap.size + 1 + 1 + 1) [.int .i64 g', .slice A3 (N + n2) (N + n2), .int .u64 (x0 : Int), .int .u64 (x1 : Int), .int .u64 (x2 : Int), .int .u64 (x3 : Int)] ∧
     Hid (x0 = (if 0 < k then f' else f) ∧ x1 = (if 1 < k then c' else c) ∧ x2 = (if 2 < k then a' else a) ∧ x3 = (if 3 < k then l' else l)) ∧ Chg [w.heap.size + 1 + 1 + 1] V wr) (fun i _ => 4 - (intOf i).toNat)
    case atStart => exact ⟨0, f, c, a, l, by omega, rfl, hO7, Lib.hid ⟨rfl, rfl, rfl, rfl⟩, Chg.refl _ _⟩
    case round =>
     obtain ⟨k, x0, x1, x2, x3, hk, rfl, hBo, hx, hchg⟩ := hrel
     have hQr := hQ.chg hchg (by simp; omega)
     have hRr := hR7.chg hchg (by simp)
     have hlt := hBo.lt
     have o0 := hBo.cell 0
     have z0 := hBo.free 0
     have o1 := hBo.cell 1
     have z1 := hBo.free 1
     have o2 := hBo.cell 2
     have z2 := hBo.free 2
     have o3 := hBo.cell 3
     have z3 := hBo.free 3
     have o4 := hBo.cell 4
     have z4 := hBo.free 4
     have o5 := hBo.cell 5
     have z5 := hBo.free 5
     have p0 := hQr.cell 0
     have p1 := hQr.cell 1
     have p2 := hQr.cell 2
     have p3 := hQr.cell 3
     have p4 := hQr.cell 4
     have p5 := hQr.cell 5
     have p6 := hQr.cell 6
     have p7 := hQr.cell 7
     simp only [gE0, gE1] at o0 o1 o2 o3 o4 o5 p0 p1 p2 p3 p4 p5 p6 p7
     rcases (by omega : k = 0 ∨ k = 1 ∨ k = 2 ∨ k = 3 ∨ k = 4) with rfl | rfl | rfl | rfl | rfl
     ·have he : orElse F f = f' := HF.out
      have hx' : x0 = (if 0 < 0 then f' else f) ∧ x1 = (if 1 < 0 then c' else c) ∧ x2 = (if 2 < 0 then a' else a) ∧ x3 = (if 3 < 0 then l' else l) := hx.out
      have HX := Lib.hid hx'
      by_cases hE : F = 0
      ·have e1 : ((F : Int) == 0) = true := by simp [hE]
       have e2 : (!((F : Int) == 0)) = false := by rw [e1]; rfl
       have hv : f = f' := by rw [← he, hE]; rfl
       have HV := Lib.hid hv
       clear hv he hE hx' hx
       go_wp2_with fail
       go_roundw
       case rel =>
        refine ⟨1, x0, x1, x2, x3, by omega, rfl, hBo.alloc _, Lib.hid ?_, hchg.alloc _⟩
        have hx' := HX.out
        have hv := HV.out
        simp at hx' ⊢
        simp [hx', hv]
       case measure => simp [intOf]
      ·have e1 : ((F : Int) == 0) = false := by simp; omega
       have e2 : (!((F : Int) == 0)) = true := by rw [e1]; rfl
       have hv : F = f' := by rw [← he, orElse_pos hE]
       have HV := Lib.hid hv
       clear hv he hE hx' hx
       go_wp2_with fail
       go_roundw
       case rel =>
        refine ⟨1, F, x1, x2, x3, by omega, rfl, (hBo.store 2 _).alloc _, Lib.hid ?_, (hchg.setCell _ (.inl (by simp))).alloc _⟩
        have hx' := HX.out
        have hv := HV.out
        simp at hx' ⊢
        simp [hx', hv]
       case measure => simp [intOf]
     ·have he : orElse C c = c' := HC.out
      have hx' : x0 = (if 0 < 1 then f' else f) ∧ x1 = (if 1 < 1 then c' else c) ∧ x2 = (if 2 < 1 then a' else a) ∧ x3 = (if 3 < 1 then l' else l) := hx.out
      have HX := Lib.hid hx'
      by_cases hE : C = 0
      ·have e1 : ((C : Int) == 0) = true := by simp [hE]
       have e2 : (!((C : Int) == 0)) = false := by rw [e1]; rfl
       have hv : c = c' := by rw [← he, hE]; rfl
       have HV := Lib.hid hv
       clear hv he hE hx' hx
       go_wp2_with fail
       go_roundw
       case rel =>
        refine ⟨2, x0, x1, x2, x3, by omega, rfl, hBo.alloc _, Lib.hid ?_, hchg.alloc _⟩
        have hx' := HX.out
        have hv := HV.out
        simp at hx' ⊢
        simp [hx', hv]
       case measure => simp [intOf]
      ·have e1 : ((C : Int) == 0) = false := by simp; omega
       have e2 : (!((C : Int) == 0)) = true := by rw [e1]; rfl
       have hv : C = c' := by rw [← he, orElse_pos hE]
       have HV := Lib.hid hv
       clear hv he hE hx' hx
       go_wp2_with fail
       go_roundw
       case rel =>
        refine ⟨2, x0, C, x2, x3, by omega, rfl, (hBo.store 3 _).alloc _, Lib.hid ?_, (hchg.setCell _ (.inl (by simp))).alloc _⟩
        have hx' := HX.out
        have hv := HV.out
        simp at hx' ⊢
        simp [hx', hv]
       case measure => simp [intOf]
     ·have he : orElse AA a = a' := HA.out
      have hx' : x0 = (if 0 < 2 then f' else f) ∧ x1 = (if 1 < 2 then c' else c) ∧ x2 = (if 2 < 2 then a' else a) ∧ x3 = (if 3 < 2 then l' else l) := hx.out
      have HX := Lib.hid hx'
      by_cases hE : AA = 0
      ·have e1 : ((AA : Int) == 0) = true := by simp [hE]
       have e2 : (!((AA : Int) == 0)) = false := by rw [e1]; rfl
       have hv : a = a' := by rw [← he, hE]; rfl
       have HV := Lib.hid hv
       clear hv he hE hx' hx
       go_wp2_with fail
       go_roundw
       case rel =>
        refine ⟨3, x0, x1, x2, x3, by omega, rfl, hBo.alloc _, Lib.hid ?_, hchg.alloc _⟩
        have hx' := HX.out
        have hv := HV.out
        simp at hx' ⊢
        simp [hx', hv]
       case measure => simp [intOf]
      ·have e1 : ((AA : Int) == 0) = false := by simp; omega
       have e2 : (!((AA : Int) == 0)) = true := by rw [e1]; rfl
       have hv : AA = a' := by rw [← he, orElse_pos hE]
       have HV := Lib.hid hv
       clear hv he hE hx' hx
       go_wp2_with fail
       go_roundw
       case rel =>
        refine ⟨3, x0, x1, AA, x3, by omega, rfl, (hBo.store 4 _).alloc _, Lib.hid ?_, (hchg.setCell _ (.inl (by simp))).alloc _⟩
        have hx' := HX.out
        have hv := HV.out
        simp at hx' ⊢
        simp [hx', hv]
       case measure => simp [intOf]
     ·have he : orElse L l = l' := HL.out
      have hx' : x0 = (if 0 < 3 then f' else f) ∧ x1 = (if 1 < 3 then c' else c) ∧ x2 = (if 2 < 3 then a' else a) ∧ x3 = (if 3 < 3 then l' else l) := hx.out
      have HX := Lib.hid hx'
      by_cases hE : L = 0
      ·have e1 : ((L : Int) == 0) = true := by simp [hE]
       have e2 : (!((L : Int) == 0)) = false := by rw [e1]; rfl
       have hv : l = l' := by rw [← he, hE]; rfl
       have HV := Lib.hid hv
       clear hv he hE hx' hx
       go_wp2_with fail
       go_roundw
       case rel =>
        refine ⟨4, x0, x1, x2, x3, by omega, rfl, hBo.alloc _, Lib.hid ?_, hchg.alloc _⟩
        have hx' := HX.out
        have hv := HV.out
        simp at hx' ⊢
        simp [hx', hv]
       case measure => simp [intOf]
      ·have e1 : ((L : Int) == 0) = false := by simp; omega
       have e2 : (!((L : Int) == 0)) = true := by rw [e1]; rfl
       have hv : L = l' := by rw [← he, orElse_pos hE]
       have HV := Lib.hid hv
       clear hv he hE hx' hx
       go_wp2_with fail
       go_roundw
       case rel =>
        refine ⟨4, x0, x1, x2, L, by omega, rfl, (hBo.store 5 _).alloc _, Lib.hid ?_, (hchg.setCell _ (.inl (by simp))).alloc _⟩
        have hx' := HX.out
        have hv := HV.out
        simp at hx' ⊢
        simp [hx', hv]
       case measure => simp [intOf]
     ·have hx' : x0 = (if 0 < 4 then f' else f) ∧ x1 = (if 1 < 4 then c' else c) ∧ x2 = (if 2 < 4 then a' else a) ∧ x3 = (if 3 < 4 then l' else l) := hx.out
      simp at hx'
      obtain ⟨rfl, rfl, rfl, rfl⟩ := hx'
      have hbr : Below w.heap.size w wr := hbl7.trans (hchg.below hbl7.size (by intro q hq; simp at hq; omega))
      have hFr := hF7.chg hchg (fun q hq h => by
       have := hF7.low q hq
       simp at h
       omega)
      have hok := ok_gen ⟨g', fs ++ ad, x0, x1, x2, x3⟩ A3 (N + n2) (N + n2) wr (by omega) (Nat.le_refl _) (Nat.le_trans hFr.nc hFr.cm) hFr.row
      unfold Vw.val at hok
      simp only at hok
      have hap := HAP2.out
      generalize hux : (⟨g', fs ++ ad, x0, x1, x2, x3⟩ : Vw) = u at *
      obtain ⟨ob, hob⟩ : ∃ ob, ob = u.ok := ⟨_, rfl⟩
      rw [← hob] at hok
      have HOB := Lib.hid hob
      have HUX := Lib.hid hux
      have HAP3 := Lib.hid hap
      clear hx hux hob hap HAP2
      clear p0 p1 p2 p3 p4 p5 p6 p7 z0 z1 z2 z3 z4 z5 hQr hQ hO7 hR7 hF7 hbl7 hchg
      go_wp2_with fail
      refine hok.mono ?_
      rintro e w2 ⟨rfl, hb2⟩
      have hB2 := hBo.below hb2
      have hR2 := hRr.below hb2
      have hF2 := hFr.below hb2
      have hb3 := later_ hbr hb2
      clear hok o0 o1 o2 o3 o4 o5 hBo hRr hFr hb2 hbr
      have o0 := hB2.cell 0
      have r0 := hR2.cell 0
      have z0 := hR2.free 0
      have o1 := hB2.cell 1
      have r1 := hR2.cell 1
      have z1 := hR2.free 1
      have o2 := hB2.cell 2
      have r2 := hR2.cell 2
      have z2 := hR2.free 2
      have o3 := hB2.cell 3
      have r3 := hR2.cell 3
      have z3 := hR2.free 3
      have o4 := hB2.cell 4
      have r4 := hR2.cell 4
      have z4 := hR2.free 4
      have o5 := hB2.cell 5
      have r5 := hR2.cell 5
      have z5 := hR2.free 5
      simp only [gE0, gE1] at o0 o1 o2 o3 o4 o5 r0 r1 r2 r3 r4 r5
      clear hB2 hR2
      cases ob with
      | false =>
       go_wp2_with fail
       refine bodyPost_ret (v := .tuple #[.agg #[.int .i64 0, .slice none 0 0, .int .u64 0, .int .u64 0, .int .u64 0, .int .u64 0], .bool false]) (by simp [results, go_sem, *]) rfl ?_
       unfold ApPost
       rw [HAP3.out, ← HOB.out, if_neg (by simp)]
       exact ⟨(((((hb3.setCell (by simp; omega) _).setCell (by simp; omega) _).setCell (by simp; omega) _).setCell (by simp; omega) _).setCell (by simp; omega) _).setCell (by simp; omega) _, rfl⟩
      | true =>
       go_wp2_with fail
       refine bodyPost_ret (v := .tuple #[.agg #[.int .i64 g', .slice A3 (N + n2) (N + n2), .int .u64 (x0 : Int), .int .u64 (x1 : Int), .int .u64 (x2 : Int), .int .u64 (x3 : Int)], .bool true]) (by simp [results, go_sem, *]) rfl ?_
       unfold ApPost
       rw [HAP3.out, ← HOB.out, if_pos rfl]
       refine ⟨(((((hb3.setCell (by simp; omega) _).setCell (by simp; omega) _).setCell (by simp; omega) _).setCell (by simp; omega) _).setCell (by simp; omega) _).setCell (by simp; omega) _, A3, N + n2, N + n2, by rw [← HUX.out]; rfl, ?_⟩
       have hne : ∀ q, A3 = some q → q.block ≠ w.heap.size + 1 + 1 := fun q hq => by
        have := hF2.low q hq
        omega
       have hch := (((((chg_set w2 ⟨w.heap.size + 1 + 1, 0, none⟩ (.int .i64 g')).setCell (p := ⟨w.heap.size + 1 + 1, 1, none⟩) (.slice A3 (N + n2) (N + n2)) (.inl (by simp))).setCell (p := ⟨w.heap.size + 1 + 1, 2, none⟩) (.int .u64 (x0 : Int)) (.inl (by simp))).setCell (p := ⟨w.heap.size + 1 + 1, 3, none⟩) (.int .u64 (x1 : Int)) (.inl (by simp))).setCell (p := ⟨w.heap.size + 1 + 1, 4, none⟩) (.int .u64 (x2 : Int)) (.inl (by simp))).setCell (p := ⟨w.heap.size + 1 + 1, 5, none⟩) (.int .u64 (x3 : Int)) (.inl (by simp))
       have hF9 := hF2.chg hch (fun q hq h => hne q hq (by simpa using h))
       rw [← HUX.out]
       exact ⟨hF9.row, Nat.le_refl _, Nat.le_trans hF9.nc hF9.cm, fun q hq => by have := hF9.low q hq; omega⟩
end
section
open Go Go.RowKit
theorem step_appG {P : Program} {ops : Array Oper} {o : Oper} {a : Act} {w : World} {K : Act → World → Prop} {Q : Exit → Act → World → Prop} {E : Prop} (hgd : o.guard = none) (s x : Operand) (t : TypeId)
  (ho : o.op = .call { callee := .builtin .append, args := #[s, x], argTypes := #[t, t] })
  (base : Nat) (e : TypeId) (i : TypeInfo) (z : Value) (size bytes : Nat) (ht : P.underlying t = some (.slice e)) (hi : P.info? e = some i) (hz : i.zero = some z)
  (hsize : i.size = size) (hby : i.bytes = bytes) (hzs : z.cells.size = size) (hsz : 0 < size) (hbase : base ≤ w.heap.size) (v : Value) (n : Nat) (xs : List Value) (hs : a.eval s = v) (hown : w.ownsRow base e size v n xs)
  (B : Nat) (A : Option Addr) (m c : Nat) (news : List Value) (hx : a.eval x = .slice A m c) (hr : Row B w A m size news) (h1 : ∀ u ∈ news, u.oneCell' = true)
  (N : Nat) (X : List Value) (hN : n + m = N) (hX : xs ++ news = X) (h63 : N ≤ maxLen) (hbytes : N * bytes ≤ 140737488355328)
  (h : ∀ A' c' w', w'.ownsRow base e size (.slice A' N c') N X → w.grownBy w' v.ownBlock → N ≤ c' → c' ≤ maxLen → ((Value.slice A' N c').ownBlock = v.ownBlock ∨ (Value.slice A' N c').ownBlock = some w.heap.size) → K (a.put o.dst (.slice A' N c')) w') :
  if Region.wanted o (yielded ops a.tmps) = true then Oper.wp P o a w K Q else E := by
 have hw : Region.wanted o (yielded ops a.tmps) = true := by simp [Region.wanted, hgd]
 rw [if_pos hw]
 subst hN
 subst hX
 obtain ⟨A', c', w', hrun, h3, h4, h5, h7, h6⟩ := run_appG (P := P) w base t o.type e i z size bytes ht hi hz hsize hby hzs hsz v n xs hown B A m c news hr h1 h63 hbytes hbase
 unfold Oper.wp execOp
 simp only [ho, resolve, invoke, builtin, Sem.run_bind, Sem.run_pure, Result.andThen_ok, List.map_toArray, List.map_cons, List.map_nil, hs, hx, hrun]
 exact h A' c' w' h3 h4 h5 h7 h6
theorem Fresh.base {B B' n c : Nat} {w : World} {A : Option Addr} {fs : List (Int × Int)} (h : Fresh B w A n c fs) (hb : B' ≤ B) : Fresh B' w A n c fs := ⟨h.row, h.nc, h.cm, fun a ha => Nat.le_trans hb (h.low a ha)⟩
theorem BoxO.grown {w w' : World} {e : TypeId} {g : Nat} {xs : List Value} (h : BoxO w e g xs) (hg : w.grownBy w' none) : BoxO w' e g xs := (hg.block g h.lt (by simp)).trans h
theorem own_gen (v : Vw) (A : Option Addr) (n c : Nat) (w : World) (hn : n ≤ 100000) (hr : Row w.heap.size w A n 2 (fcells v.files)) :
  Calls Tryz.prog 134 #[v.val A n c] w fun e w' => ∃ A' c', e = .returned (v.val A' n c') ∧ Fresh w.heap.size w' A' n c' v.files ∧ Below w.heap.size w w' := by
 obtain ⟨i0, hi0, hz0, hz1, hz2⟩ := info_parts info_file
 obtain ⟨g, fs, f, ce, a, l⟩ := v
 unfold Vw.val
 simp only at hr ⊢
 go_enter Tryz.func134, Tryz.ntmps134
 go_wp2_with (at_builtin; refine stop_in ?_)
 have hbw : Below w.heap.size w ((w.alloc (.cells #[.int .i64 g, .slice A n c, .int .u64 (f : Int), .int .u64 (ce : Int), .int .u64 (a : Int), .int .u64 (l : Int)] 134)).alloc (.cells #[.int .i64 0, .slice none 0 0, .int .u64 0, .int .u64 0, .int .u64 0, .int .u64 0] 134)) := ((Below.refl _ _).alloc (Nat.le_refl _) _).alloc (by simp) _
 have hP := (BoxO.new w #[.int .i64 g, .slice A n c, .int .u64 (f : Int), .int .u64 (ce : Int), .int .u64 (a : Int), .int .u64 (l : Int)] 134).alloc (.cells #[.int .i64 0, .slice none 0 0, .int .u64 0, .int .u64 0, .int .u64 0, .int .u64 0] 134)
 have hR := BoxO.new (w.alloc (.cells #[.int .i64 g, .slice A n c, .int .u64 (f : Int), .int .u64 (ce : Int), .int .u64 (a : Int), .int .u64 (l : Int)] 134)) #[.int .i64 0, .slice none 0 0, .int .u64 0, .int .u64 0, .int .u64 0, .int .u64 0] 134
 simp only [World.size_alloc] at hR
 have hsz : ((w.alloc (.cells #[.int .i64 g, .slice A n c, .int .u64 (f : Int), .int .u64 (ce : Int), .int .u64 (a : Int), .int .u64 (l : Int)] 134)).alloc (.cells #[.int .i64 0, .slice none 0 0, .int .u64 0, .int .u64 0, .int .u64 0, .int .u64 0] 134)).heap.size = w.heap.size + 1 + 1 := by simp
 refine stop_out (wpList_app0 rfl _ (.tmp 4) _ rfl (w.heap.size + 1 + 1) 166 i0 _ 2 16 Tryz.underlying132 hi0 hz0 hz1 hz2 rfl (by omega) ((w.alloc (.cells #[.int .i64 g, .slice A n c, .int .u64 (f : Int), .int .u64 (ce : Int), .int .u64 (a : Int), .int .u64 (l : Int)] 134)).alloc (.cells #[.int .i64 0, .slice none 0 0, .int .u64 0, .int .u64 0, .int .u64 0, .int .u64 0] 134)) (Below.refl _ _) (by rw [hsz]; exact Nat.le_refl _) rfl w.heap.size A n c (fcells fs) rfl (hr.below hbw) (fcells_one _) (by unfold maxLen; omega) (by omega) ?_)
 intro A1 k1 w1 ho1 hb1 hg1 hk1 hm1
 have hbl1 : Below w.heap.size w w1 := hbw.trans (hb1.mono (by omega))
 have hP1 : BoxO w1 _ _ _ := hP.grown hg1
 have hR1 : BoxO w1 _ _ _ := hR.grown hg1
 have hF := own_fresh ho1 (Nat.le_refl _)
 clear hbw hP hR hsz hb1 hg1 ho1
 have q0 := hP1.cell 0
 have q1 := hP1.cell 1
 have z1 := hP1.free 1
 have q2 := hP1.cell 2
 have q3 := hP1.cell 3
 have q4 := hP1.cell 4
 have q5 := hP1.cell 5
 have r0 := hR1.cell 0
 have y0 := hR1.free 0
 have r1 := hR1.cell 1
 have y1 := hR1.free 1
 have r2 := hR1.cell 2
 have y2 := hR1.free 2
 have r3 := hR1.cell 3
 have y3 := hR1.free 3
 have r4 := hR1.cell 4
 have y4 := hR1.free 4
 have r5 := hR1.cell 5
 have y5 := hR1.free 5
 simp only [gE0, gE1] at q0 q1 q2 q3 q4 q5 r0 r1 r2 r3 r4 r5
 clear hP1 hR1
 go_wp2_with fail
 refine bodyPost_ret (v := .agg #[.int .i64 g, .slice A1 n k1, .int .u64 (f : Int), .int .u64 (ce : Int), .int .u64 (a : Int), .int .u64 (l : Int)]) (by simp [results, go_sem, *]) rfl ⟨A1, k1, rfl, ?_, ?_⟩
 ·have hch : Chg [w.heap.size, w.heap.size + 1] w1 _ := (((((((Chg.refl _ w1).setCell (p := ⟨w.heap.size, 1, none⟩) (.slice A1 n k1) (.inl (by simp))).setCell (p := ⟨w.heap.size + 1, 0, none⟩) (.int .i64 g) (.inl (by simp))).setCell (p := ⟨w.heap.size + 1, 1, none⟩) (.slice A1 n k1) (.inl (by simp))).setCell (p := ⟨w.heap.size + 1, 2, none⟩) (.int .u64 (f : Int)) (.inl (by simp))).setCell (p := ⟨w.heap.size + 1, 3, none⟩) (.int .u64 (ce : Int)) (.inl (by simp))).setCell (p := ⟨w.heap.size + 1, 4, none⟩) (.int .u64 (a : Int)) (.inl (by simp))).setCell (p := ⟨w.heap.size + 1, 5, none⟩) (.int .u64 (l : Int)) (.inl (by simp))
  exact (hF.chg hch (fun q hq h => by
   have := hF.low q hq
   simp at h
   omega)).base (by omega)
 ·exact ((((((hbl1.setCell (by simp) _).setCell (by simp) _).setCell (by simp) _).setCell (by simp) _).setCell (by simp) _).setCell (by simp) _).setCell (by simp) _
theorem whole_gen (v : Vw) (A : Option Addr) (n c : Nat) (w : World) (hn : n ≤ 100000) (hr : Row w.heap.size w A n 2 (fcells v.files)) :
  Calls Tryz.prog 198 #[v.val A n c] w fun e w' => ∃ A' c', e = .returned (v.whole.val none 0 0 A' n c') ∧ Fresh w.heap.size w' A' n c' v.files ∧ Below w.heap.size w w' := by
 obtain ⟨i0, hi0, hz0, hz1, hz2⟩ := info_parts info_file
 obtain ⟨g, fs, f, ce, a, l⟩ := v
 unfold Vw.val Vw.whole Ed.val
 simp only at hr ⊢
 go_enter Tryz.func198, Tryz.ntmps198
 go_wp2_with fail
 change Code.wp _ _ _ _ ((w.alloc (.cells #[.int .i64 g, .slice A n c, .int .u64 (f : Int), .int .u64 (ce : Int), .int .u64 (a : Int), .int .u64 (l : Int)] 134)).alloc (.cells #[.slice none 0 0, .slice none 0 0, .int .i64 0, .int .u64 0, .int .u64 0, .int .u64 0, .int .u64 0] 163))
 have hbw : Below w.heap.size w ((w.alloc (.cells #[.int .i64 g, .slice A n c, .int .u64 (f : Int), .int .u64 (ce : Int), .int .u64 (a : Int), .int .u64 (l : Int)] 134)).alloc (.cells #[.slice none 0 0, .slice none 0 0, .int .i64 0, .int .u64 0, .int .u64 0, .int .u64 0, .int .u64 0] 163)) := ((Below.refl _ _).alloc (Nat.le_refl _) _).alloc (by simp) _
 have hP := (BoxO.new w #[.int .i64 g, .slice A n c, .int .u64 (f : Int), .int .u64 (ce : Int), .int .u64 (a : Int), .int .u64 (l : Int)] 134).alloc (.cells #[.slice none 0 0, .slice none 0 0, .int .i64 0, .int .u64 0, .int .u64 0, .int .u64 0, .int .u64 0] 163)
 have hR := BoxO.new (w.alloc (.cells #[.int .i64 g, .slice A n c, .int .u64 (f : Int), .int .u64 (ce : Int), .int .u64 (a : Int), .int .u64 (l : Int)] 134)) #[.slice none 0 0, .slice none 0 0, .int .i64 0, .int .u64 0, .int .u64 0, .int .u64 0, .int .u64 0] 163
 simp only [World.size_alloc] at hR
 have hsz : ((w.alloc (.cells #[.int .i64 g, .slice A n c, .int .u64 (f : Int), .int .u64 (ce : Int), .int .u64 (a : Int), .int .u64 (l : Int)] 134)).alloc (.cells #[.slice none 0 0, .slice none 0 0, .int .i64 0, .int .u64 0, .int .u64 0, .int .u64 0, .int .u64 0] 163)).heap.size = w.heap.size + 1 + 1 := by simp
 have hrV := hr.below hbw
 generalize ((w.alloc (.cells #[.int .i64 g, .slice A n c, .int .u64 (f : Int), .int .u64 (ce : Int), .int .u64 (a : Int), .int .u64 (l : Int)] 134)).alloc (.cells #[.slice none 0 0, .slice none 0 0, .int .i64 0, .int .u64 0, .int .u64 0, .int .u64 0, .int .u64 0] 163)) = V at *
 have HRV := Lib.hid hrV.drew
 have HSZ : Hid (w.heap.size + 1 + 1 ≤ V.drew.heap.size) := Lib.hid (Nat.le_of_eq hsz.symm)
 clear hrV hr hsz
 refine wp_region_held_drew (S := (fun w' => Below w.heap.size w w' ∧ BoxO w' 134 w.heap.size [.int .i64 g, .slice A n c, .int .u64 (f : Int), .int .u64 (ce : Int), .int .u64 (a : Int), .int .u64 (l : Int)])) rfl ⟨below_drew hbw, hP.drew⟩ (fun hSw => ?_)
 refine wpT (i := 0) (v := ?v0) ?h0 hSw ?k0
 case h0 => (intro w hSw; have u0 := hSw.2.cell 0; have u1 := hSw.2.cell 1; have u2 := hSw.2.cell 2; have u3 := hSw.2.cell 3; have u4 := hSw.2.cell 4; have u5 := hSw.2.cell 5; simp only [gE0, gE1] at u0 u1 u2 u3 u4 u5; go_simp; try (with_reducible rfl))
 go_simp
 refine wpT (i := 1) (v := ?v1) ?h1 hSw ?k1
 case h1 => (intro w hSw; have u0 := hSw.2.cell 0; have u1 := hSw.2.cell 1; have u2 := hSw.2.cell 2; have u3 := hSw.2.cell 3; have u4 := hSw.2.cell 4; have u5 := hSw.2.cell 5; simp only [gE0, gE1] at u0 u1 u2 u3 u4 u5; go_simp; try (with_reducible rfl))
 go_simp
 refine wpT (i := 3) (v := ?v3) ?h3 hSw ?k3
 case h3 => (intro w hSw; have u0 := hSw.2.cell 0; have u1 := hSw.2.cell 1; have u2 := hSw.2.cell 2; have u3 := hSw.2.cell 3; have u4 := hSw.2.cell 4; have u5 := hSw.2.cell 5; simp only [gE0, gE1] at u0 u1 u2 u3 u4 u5; go_simp; try (with_reducible rfl))
 go_simp
 refine wpT (i := 4) (v := ?v4) ?h4 hSw ?k4
 case h4 => (intro w hSw; have u0 := hSw.2.cell 0; have u1 := hSw.2.cell 1; have u2 := hSw.2.cell 2; have u3 := hSw.2.cell 3; have u4 := hSw.2.cell 4; have u5 := hSw.2.cell 5; simp only [gE0, gE1] at u0 u1 u2 u3 u4 u5; go_simp; try (with_reducible rfl))
 go_simp
 refine wpT (i := 5) (v := ?v5) ?h5 hSw ?k5
 case h5 => (intro w hSw; have u0 := hSw.2.cell 0; have u1 := hSw.2.cell 1; have u2 := hSw.2.cell 2; have u3 := hSw.2.cell 3; have u4 := hSw.2.cell 4; have u5 := hSw.2.cell 5; simp only [gE0, gE1] at u0 u1 u2 u3 u4 u5; go_simp; try (with_reducible rfl))
 go_simp
 refine wpT (i := 6) (v := ?v6) ?h6 hSw ?k6
 case h6 => (intro w hSw; have u0 := hSw.2.cell 0; have u1 := hSw.2.cell 1; have u2 := hSw.2.cell 2; have u3 := hSw.2.cell 3; have u4 := hSw.2.cell 4; have u5 := hSw.2.cell 5; simp only [gE0, gE1] at u0 u1 u2 u3 u4 u5; go_simp; try (with_reducible rfl))
 go_simp
 refine wpT (i := 7) (v := ?v7) ?h7 hSw ?k7
 case h7 => (intro w hSw; have u0 := hSw.2.cell 0; have u1 := hSw.2.cell 1; have u2 := hSw.2.cell 2; have u3 := hSw.2.cell 3; have u4 := hSw.2.cell 4; have u5 := hSw.2.cell 5; simp only [gE0, gE1] at u0 u1 u2 u3 u4 u5; go_simp; try (with_reducible rfl))
 go_simp
 refine wpT (i := 8) (v := ?v8) ?h8 hSw ?k8
 case h8 => (intro w hSw; have u0 := hSw.2.cell 0; have u1 := hSw.2.cell 1; have u2 := hSw.2.cell 2; have u3 := hSw.2.cell 3; have u4 := hSw.2.cell 4; have u5 := hSw.2.cell 5; simp only [gE0, gE1] at u0 u1 u2 u3 u4 u5; go_simp; try (with_reducible rfl))
 go_simp
 refine wpT (i := 9) (v := ?v9) ?h9 hSw ?k9
 case h9 => (intro w hSw; have u0 := hSw.2.cell 0; have u1 := hSw.2.cell 1; have u2 := hSw.2.cell 2; have u3 := hSw.2.cell 3; have u4 := hSw.2.cell 4; have u5 := hSw.2.cell 5; simp only [gE0, gE1] at u0 u1 u2 u3 u4 u5; go_simp; try (with_reducible rfl))
 go_simp
 refine wpT (i := 10) (v := ?v10) ?h10 hSw ?k10
 case h10 => (intro w hSw; have u0 := hSw.2.cell 0; have u1 := hSw.2.cell 1; have u2 := hSw.2.cell 2; have u3 := hSw.2.cell 3; have u4 := hSw.2.cell 4; have u5 := hSw.2.cell 5; simp only [gE0, gE1] at u0 u1 u2 u3 u4 u5; go_simp; try (with_reducible rfl))
 go_simp
 refine wpT (i := 11) (v := ?v11) ?h11 hSw ?k11
 case h11 => (intro w hSw; have u0 := hSw.2.cell 0; have u1 := hSw.2.cell 1; have u2 := hSw.2.cell 2; have u3 := hSw.2.cell 3; have u4 := hSw.2.cell 4; have u5 := hSw.2.cell 5; simp only [gE0, gE1] at u0 u1 u2 u3 u4 u5; go_simp; try (with_reducible rfl))
 go_simp
 refine wpT (i := 12) (v := ?v12) ?h12 hSw ?k12
 case h12 => (intro w hSw; have u0 := hSw.2.cell 0; have u1 := hSw.2.cell 1; have u2 := hSw.2.cell 2; have u3 := hSw.2.cell 3; have u4 := hSw.2.cell 4; have u5 := hSw.2.cell 5; simp only [gE0, gE1] at u0 u1 u2 u3 u4 u5; go_simp; try (with_reducible rfl))
 go_simp
 refine wpAnyH_ready (rs := [2]) (by kernel_rfl) (by simp) ?_
 refine AllReadyH.cons rfl (fun K hK => ?_) AllReadyH.nil
 refine step_appG rfl (.const (.slice none 0 0)) (.tmp 4) _ rfl (w.heap.size + 1 + 1) 166 i0 _ 2 16 Tryz.underlying132 hi0 hz0 hz1 hz2 rfl (by omega) HSZ.out (.slice none 0 0) 0 [] rfl (World.ownsRow_nil _ _ _ _) w.heap.size A n c (fcells fs) rfl HRV.out (fcells_one _) n _ (Nat.zero_add _) (List.nil_append _) (by unfold maxLen; omega) (by omega) ?_
 intro A4 c4 w4 hown4 hg4 _ _ _
 have hF4 := own_fresh (B := w.heap.size + 1 + 1) hown4 (Nat.le_refl _)
 have hR4 : BoxO w4 _ _ _ := hR.drew.grown hg4
 have hS4 := (⟨hSw.1.grown hg4 hSw.1.size (fun k hk => by cases hk), hSw.2.grown hg4⟩ : Below w.heap.size w w4 ∧ BoxO w4 134 w.heap.size [.int .i64 g, .slice A n c, .int .u64 (f : Int), .int .u64 (ce : Int), .int .u64 (a : Int), .int .u64 (l : Int)])
 refine hK.out _ _ hS4 (fun hSn => ?_)
 clear hK K hSw hSn
 have hSw := hS4
 clear hS4 hown4 hg4 hR hP hbw HRV HSZ
 go_simp
 refine wpT (i := 13) (v := ?v13) ?h13 hSw ?k13
 case h13 => (intro w hSw; have u0 := hSw.2.cell 0; have u1 := hSw.2.cell 1; have u2 := hSw.2.cell 2; have u3 := hSw.2.cell 3; have u4 := hSw.2.cell 4; have u5 := hSw.2.cell 5; simp only [gE0, gE1] at u0 u1 u2 u3 u4 u5; go_simp; try (with_reducible rfl))
 go_simp
 have r0 := hR4.cell 0
 have y0 := hR4.free 0
 have r1 := hR4.cell 1
 have y1 := hR4.free 1
 have r2 := hR4.cell 2
 have y2 := hR4.free 2
 have r3 := hR4.cell 3
 have y3 := hR4.free 3
 have r4 := hR4.cell 4
 have y4 := hR4.free 4
 have r5 := hR4.cell 5
 have y5 := hR4.free 5
 have r6 := hR4.cell 6
 have y6 := hR4.free 6
 simp only [gE0, gE1] at r0 r1 r2 r3 r4 r5 r6
 have hch : Chg [w.heap.size + 1] w4 _ := (((((((Chg.refl _ w4).setCell (p := ⟨w.heap.size + 1, 0, none⟩) (.slice none 0 0) (.inl (by simp))).setCell (p := ⟨w.heap.size + 1, 1, none⟩) (.slice A4 n c4) (.inl (by simp))).setCell (p := ⟨w.heap.size + 1, 2, none⟩) (.int .i64 g) (.inl (by simp))).setCell (p := ⟨w.heap.size + 1, 3, none⟩) (.int .u64 (f : Int)) (.inl (by simp))).setCell (p := ⟨w.heap.size + 1, 4, none⟩) (.int .u64 (ce : Int)) (.inl (by simp))).setCell (p := ⟨w.heap.size + 1, 5, none⟩) (.int .u64 (a : Int)) (.inl (by simp))).setCell (p := ⟨w.heap.size + 1, 6, none⟩) (.int .u64 (l : Int)) (.inl (by simp))
 refine wpAnyH_ready (rs := [14]) (by kernel_rfl) (by simp) ?_
 refine AllReadyH.cons rfl (fun K hK => ?_) AllReadyH.nil
 go_simp
 refine hK.out _ _ ⟨(((((((hSw.1.setCell (by simp) _).setCell (by simp) _).setCell (by simp) _).setCell (by simp) _).setCell (by simp) _).setCell (by simp) _).setCell (by simp) _), hSw.2.chg hch (by simp)⟩ (fun hSn => ?_)
 clear hK K hSw
 have hSw := hSn
 clear hSn
 go_simp
 refine wpAnyH_done (by kernel_rfl) ?_ _
 go_wp2_with fail
 refine bodyPost_ret (v := .agg #[.slice none 0 0, .slice A4 n c4, .int .i64 g, .int .u64 (f : Int), .int .u64 (ce : Int), .int .u64 (a : Int), .int .u64 (l : Int)]) (by simp [results, go_sem, *]) rfl ⟨A4, c4, rfl, ?_, hSw.1⟩
 exact (hF4.chg hch (fun q hq h => by
  have := hF4.low q hq
  simp at h
  omega)).base (by omega)
end
section
open Go Go.RowKit Go.Lib
theorem setBit_len_ (b : List UInt8) (i : Nat) : (Tb.setBit b i).length = b.length := by simp [Tb.setBit]
theorem BlAt.set {w : World} {f g : Nat} {B : List UInt8} {x q j : Nat} {bx : UInt8} (h : BlAt w f g B) (hq : q = x / 8) (hj : j = x % 8) (hB : B[q]? = some bx) :
  BlAt (w.drew.setCell ⟨g, q, none⟩ (.int .u8 ((bx ||| UInt8.ofNat (2 ^ j)).toNat : Int))) f g (Tb.setBit B x) ∧ Chg [g] w (w.drew.setCell ⟨g, q, none⟩ (.int .u8 ((bx ||| UInt8.ofNat (2 ^ j)).toNat : Int))) := by
 have hc := chg_set w.drew ⟨g, q, none⟩ (.int .u8 ((bx ||| UInt8.ofNat (2 ^ j)).toNat : Int))
 refine ⟨⟨?_, ?_, h.ne⟩, ((Chg.refl [g] w).drew).trans hc (fun g hg => .inl hg)⟩
 ·rw [setBit_len_]
  exact h.box.drew.chg hc (by simpa using h.ne)
 ·have := h.bits.drew.store q (.int .u8 ((bx ||| UInt8.ofNat (2 ^ j)).toNat : Int))
  have e : (bts B).set q (.int .u8 ((bx ||| UInt8.ofNat (2 ^ j)).toNat : Int)) = bts (Tb.setBit B x) := by
   unfold Tb.setBit bts
   rw [List.map_set, ← hq, ← hj, List.getD_eq_getElem?_getD, hB]
   rfl
  rw [← e]
  exact this
theorem BlAt.app {w w' : World} {f g : Nat} {b : List UInt8} {r : Option Nat} (h : BlAt w f g b) (hg : w.grownBy w' r) (hr : some f ≠ r ∧ some g ≠ r) : BlAt w' f g b := ⟨h.box.igrown hg hr.1, h.bits.igrown hg hr.2, h.ne⟩
end
section
open Go Go.RowKit Go.Lib
end
section
namespace It
end It
end
section
open Go Go.RowKit Go.Lib
def TbAt (w : World) (f : Nat) (rs : List (List It)) : Prop := ∃ P n c cnt, cnt = rs.flatten.length ∧ BoxO w 271 f [.slice P n c, .int .i64 ((cnt : Nat) : Int), .int .u32 0, .int .i32 0, .int .u32 0, .pointer none] ∧ n ≤ c ∧ c ≤ maxLen ∧ IRows w.heap.size w P n rs
def Sames (b h : Nat) (w w' : World) : Prop := h ≤ w'.heap.size ∧ ∀ g, b ≤ g → g < h → w'.heap[g]? = w.heap[g]?
theorem Row.sames {B n size b h : Nat} {w w' : World} {A : Option Addr} {xs : List Value} (hr : Row B w A n size xs) (hs : Sames b h w w') (hB : B ≤ h) (hA : ∀ a, A = some a → b ≤ a.block) : Row B w' A n size xs := by
 refine ⟨hr.len, fun j hj => ?_⟩
 obtain ⟨a, e, h1, h2⟩ := hr.cell j hj
 refine ⟨a, e, h1, ?_⟩
 rw [World.cell?_of_block (w := w) (by rw [add_block]; exact hs.2 a.block (hA a e) (by omega))]
 exact h2
def HRows (b : Nat) (no : Option Nat) (w : World) (ls : List (List It)) (vs : List Value) : Prop := ls.length = vs.length ∧ ∀ i (h : i < ls.length), ∃ A k c, vs[i]? = some (.slice A k c) ∧ k ≤ c ∧ c ≤ maxLen ∧ Row w.heap.size w A k 5 (itc ls[i]) ∧ ∀ a, A = some a → b ≤ a.block ∧ a.block < w.heap.size ∧ some a.block ≠ no
theorem HRows.step {b : Nat} {no no' : Option Nat} {w w' : World} {ls : List (List It)} {vs : List Value} (hh : HRows b no w ls vs) (hs : w.heap.size ≤ w'.heap.size) (hk : ∀ g, b ≤ g → g < w.heap.size → some g ≠ no → w'.heap[g]? = w.heap[g]?) (hn : ∀ g, g < w.heap.size → some g ≠ no → some g ≠ no') : HRows b no' w' ls vs := by
 refine ⟨hh.1, fun i hi => ?_⟩
 obtain ⟨A, k, c, h1, h2, h3, h4, h5⟩ := hh.2 i hi
 refine ⟨A, k, c, h1, h2, h3, ⟨h4.len, fun j hj => ?_⟩, fun a ha => ⟨(h5 a ha).1, by have := (h5 a ha).2.1; omega, hn _ (h5 a ha).2.1 (h5 a ha).2.2⟩⟩
 obtain ⟨a, e, q1, q2⟩ := h4.cell j hj
 refine ⟨a, e, by omega, ?_⟩
 rw [World.cell?_of_block (w := w) (by rw [add_block]; exact hk _ (h5 a e).1 (h5 a e).2.1 (h5 a e).2.2)]
 exact q2
theorem HRows.row {b : Nat} {no : Option Nat} {w : World} {ls : List (List It)} {vs : List Value} (hh : HRows b no w ls vs) {P : Option Addr} {n : Nat} (hr : Row w.heap.size w P n 1 vs) : IRows w.heap.size w P n ls :=
 ⟨vs, hr, by have := hr.len; have := hh.1; omega, fun i hi => let ⟨A, k, c, h1, h2, h3, h4, _⟩ := hh.2 i hi; ⟨A, k, c, h1, h2, h3, h4⟩⟩
theorem TbAt.of {b f cnt : Nat} {w W : World} {v : Value} {vs : List Value} {rs : List (List It)} {no : Option Nat} (hc : cnt = rs.flatten.length) (hf : b ≤ f) (hx : BoxO w 271 f [v, .int .i64 (cnt : Int), .int .u32 0, .int .i32 0, .int .u32 0, .pointer none]) (ho : w.ownsRow b 24 1 v rs.length vs) (hh : HRows b none w rs vs) (hs : Sames b w.heap.size w W) : TbAt W f rs := by
 have hx2 : BoxO W 271 f _ := (hs.2 f hf hx.lt).trans hx
 obtain ⟨P, c, rfl, h1, h2, h3⟩ := own_form ho
 refine ⟨P, _, c, cnt, hc, hx2, h1, h2, ?_⟩
 have hr := ((Row.own ho).sames hs (Nat.le_refl _) (fun a ha => (h3 a ha).1)).up hs.1
 exact (hh.step (no' := none) hs.1 (fun g h4 h5 _ => hs.2 g h4 h5) (fun g _ h => h)).row hr
end
section
open Go Go.RowKit Go.Shelf
structure Sl where
 a : Option Addr
 n : Nat
 c : Nat
def Gs.cells (M : Gs) (xd : Nat) (P : Sl) : List Value := [.pointer (some ⟨xd, 0, none⟩), .string (str M.name), .int .i64 M.v.log, .slice P.a P.n P.c, .int .u64 (M.v.floor : Int), .int .u64 (M.v.cert : Int), .int .u64 (M.v.at_ : Int), .int .u64 (M.v.lease : Int), .int .i64 (M.count : Int), .int .u32 (if M.broken = true then 1 else 0), .int .i32 0, .int .u32 0, .bool M.broken]
abbrev GK (w : World) (m xd : Nat) (M : Gs) (P : Sl) : Prop := BoxO w 209 m (M.cells xd P)
theorem gbreak_any (m xd : Nat) (M : Gs) (P : Sl) (w : World) (h : GK w m xd M P) : Calls Tryz.prog 202 #[.pointer (some ⟨m, 0, none⟩)] w fun e w' => e = .returned (.tuple #[]) ∧ GK w' m xd { M with broken := true } P ∧ Chg [m] w w' := by
 have hmf : ∀ (fn : Fn) (first cap : Array Value) (w : World), (Instr.makeFunc fn first cap).run Tryz.prog w = .ok (.func fn first cap) w := fun _ _ _ _ => rfl
 have hlt := h.lt
 have h1 : GK (w.alloc (.cells #[.pointer (some ⟨m, 0, none⟩)] 70)) m xd M P := BoxO.alloc h _
 have hp : (w.alloc (.cells #[.pointer (some ⟨m, 0, none⟩)] 70)).cell? ⟨w.heap.size, 0, none⟩ = some (.pointer (some ⟨m, 0, none⟩)) := by simp
 have hc1 : Chg [m] w (w.alloc (.cells #[.pointer (some ⟨m, 0, none⟩)] 70)) := (Chg.refl [m] w).alloc _
 generalize hV : w.alloc (.cells #[.pointer (some ⟨m, 0, none⟩)] 70) = V at *
 have c9 := h1.cell 9
 have c10 := h1.cell 10
 have c12 := h1.cell 12
 simp only [Gs.cells, gE0, gE1] at c9 c10 c12
 cases hb : M.broken with
 | false =>
  rw [hb] at c9 c12
  simp only [Bool.false_eq_true, if_false] at c9
  have hdo := Once.do_first m ⟨w.heap.size, 0, none⟩ (by simp; omega) _ V hp c9 c10 c12 (h1.free 9) (h1.free 10) (h1.free 12)
  have hbx := ((((h1.store 10 (.int .i32 1)).store 12 (.bool true)).drew.store 9 (.int .u32 1)).store 10 (.int .i32 0))
  have hcc : Chg [m] V ((((V.setCell ⟨m, 10, none⟩ (.int .i32 1)).setCell ⟨m, 12, none⟩ (.bool true)).drew.setCell ⟨m, 9, none⟩ (.int .u32 1)).setCell ⟨m, 10, none⟩ (.int .i32 0)) := (((((Chg.refl [m] V).setCell _ (.inl (by simp))).setCell _ (.inl (by simp))).drew).setCell _ (.inl (by simp))).setCell _ (.inl (by simp))
  have hres : GK ((((V.setCell ⟨m, 10, none⟩ (.int .i32 1)).setCell ⟨m, 12, none⟩ (.bool true)).drew.setCell ⟨m, 9, none⟩ (.int .u32 1)).setCell ⟨m, 10, none⟩ (.int .i32 0)) m xd { M with broken := true } P := hbx
  have HR := Lib.hid (And.intro hres (hc1.trans hcc (fun g hg => .inl hg)))
  clear hres hcc hbx hb
  go_enter Tryz.func202, Tryz.ntmps202
  go_wp2_with fail
  refine hdo.mono ?_
  rintro e w2 ⟨rfl, rfl⟩
  go_wp2
  exact bodyPost_end (v := .tuple #[]) (by simp [results, go_sem]) rfl ⟨rfl, HR.out⟩
 | true =>
  rw [hb] at c9
  simp only [if_true] at c9
  have hdo := Once.do_done ⟨m, 9, none⟩ 1 (by omega) (.func (.func 245) #[] #[.pointer (some ⟨w.heap.size, 0, none⟩)]) V c9
  have hres : GK V m xd { M with broken := true } P := by
   have e : ({ M with broken := true } : Gs) = M := by cases M; simp at hb; simp [hb]
   rw [e]
   exact h1
  have HR := Lib.hid (And.intro hres hc1)
  clear hres hb
  go_enter Tryz.func202, Tryz.ntmps202
  go_wp2_with fail
  refine hdo.mono ?_
  rintro e w2 ⟨rfl, hw2⟩
  obtain rfl := hw2.symm
  go_wp2
  exact bodyPost_end (v := .tuple #[]) (by simp [results, go_sem]) rfl ⟨rfl, HR.out⟩
structure Vrow (w : World) (X : Dw) (m : Nat) (P : Sl) (fs : List (Int × Int)) : Prop where
 row : Row w.heap.size w P.a P.n 2 (fcells fs)
 nc : P.n ≤ P.c
 cm : P.c ≤ maxLen
 nb : P.n ≤ 10000
 away : ∀ j, j < (fcells fs).length → ∀ a, P.a = some a → a.block ≠ m ∧ a.block ∉ X.foot
section
variable {w w' : World} {X X' : Dw} {m : Nat} {P : Sl} {fs : List (Int × Int)}
theorem row_chg {B n size : Nat} {A : Option Addr} {xs : List Value} {F : List Nat} (h : Chg F w w') (r : Row B w A n size xs) (hB : B ≤ w.heap.size) (hF : ∀ j, j < xs.length → ∀ a, A = some a → a.block ∉ F) : Row B w' A n size xs :=
 ⟨r.len, fun j hj => let ⟨a, e, b, c⟩ := r.cell j hj; ⟨a, e, b, (h.cell (p := a.add j) (by rw [add_block]; omega) (by rw [add_block]; exact hF j hj a e)).trans c⟩⟩
theorem Vrow.below (h : Vrow w X m P fs) (hb : Below w.heap.size w w') : Vrow w' X m P fs := ⟨(h.row.below hb).up hb.size, h.nc, h.cm, h.nb, h.away⟩
theorem Vrow.turn (h : Vrow w X m P fs) (c : Chg [m] w w') : Vrow w' X m P fs := ⟨(row_chg c h.row (Nat.le_refl _) (fun j hj a ha hm => (h.away j hj a ha).1 (List.mem_singleton.1 hm))).up c.size, h.nc, h.cm, h.nb, h.away⟩
theorem Vrow.step (h : Vrow w X m P fs) (c : Chg X.foot w w') (hf : ∀ g ∈ X'.foot, g ∈ X.foot ∨ w.heap.size ≤ g) : Vrow w' X' m P fs :=
 ⟨(row_chg c h.row (Nat.le_refl _) (fun j hj a ha => (h.away j hj a ha).2)).up c.size, h.nc, h.cm, h.nb, fun j hj a ha => ⟨(h.away j hj a ha).1, fun hm => by
  rcases hf _ hm with h1 | h1
  ·exact (h.away j hj a ha).2 h1
  ·obtain ⟨a', e, hb, _⟩ := h.row.cell j hj
   rw [ha] at e
   injection e with e
   subst e
   omega⟩⟩
end
structure Gst (P : Sl) (m : Nat) (X : Dw) (w : World) (S : Sd) (M : Gs) (w' : World) (X' : Dw) : Prop where
 acc : Acc [m] X w S w' X'
 man : GK w' m X.d M P
 row : Vrow w' X' m P M.v.files
 lt : m < w.heap.size
 out : m ∉ X.foot
 ng : NG ≤ m
variable {P P1 : Sl} {m : Nat} {X X1 : Dw} {w w1 w2 : World} {S S1 : Sd} {M M1 : Gs}
theorem Gst.start (h : Dm w X S) (hm : GK w m X.d M P) (hr : Vrow w X m P M.v.files) (ho : m ∉ X.foot) (hn : NG ≤ m) : Gst P m X w S M w X := ⟨Acc.start h, hm, hr, hm.lt, ho, hn⟩
theorem Gst.away (h : Gst P m X w S M w1 X1) : m ∉ X1.foot := fun hm => by
 rcases h.acc.f m hm with h1 | h1
 ·exact h.out h1
 ·have := h.lt
  omega
theorem Gst.below (h : Gst P m X w S M w1 X1) (hb : Below w1.heap.size w1 w2) : Gst P m X w S M w2 X1 := ⟨h.acc.below hb, h.man.below hb, h.row.below hb, h.lt, h.out, h.ng⟩
theorem Gst.step (h : Gst P m X w S M w1 X1) (hu : UpdM X1 w1 w2 S1) : ∃ X2, Gst P m X w S1 M w2 X2 := by
 obtain ⟨X2, e, hd, hc, hf⟩ := hu
 refine ⟨X2, ⟨e.trans h.acc.e, hd, h.acc.c.trans hc (fun g hg => ?_), fun g hg => ?_⟩, h.man.chg hc h.away, h.row.step hc hf, h.lt, h.out, h.ng⟩
 ·rcases h.acc.f g hg with h1 | h1
  ·exact .inl (List.mem_append_right _ h1)
  ·exact .inr h1
 ·rcases hf g hg with h1 | h1
  ·exact h.acc.f g h1
  ·exact .inr (Nat.le_trans h.acc.c.size h1)
theorem Gst.turn (h : Gst P m X w S M w1 X1) (c : Chg [m] w1 w2) (hm : GK w2 m X.d M1 P) (hv : M1.v = M.v) : Gst P m X w S M1 w2 X1 :=
 ⟨h.acc.other c (fun g hg => by rw [List.mem_singleton.1 hg]; exact ⟨by simp, h.lt, h.out, h.ng⟩), hm, by rw [hv]; exact h.row.turn c, h.lt, h.out, h.ng⟩
theorem Gst.read (h : Gst P m X w S M w1 X1) (s : ByteArray) (hs : s.size ≤ maxLen) :
  Calls Tryz.prog 125 #[.pointer (some ⟨X.d, 0, none⟩), .string s] w1 fun e w' => ∃ A c, e = .returned (.tuple #[.slice A (S.read s.data.toList).1.length c, .int .i64 ((S.read s.data.toList).2 : Int)]) ∧ Below w1.heap.size w1 w' :=
 (h.acc.read s hs).mono fun _ _ ⟨A, c, h1, _, h2⟩ => ⟨A, c, h1, h2⟩
theorem Gst.write (h : Gst P m X w S M w1 X1) (s : ByteArray) (hs : s.size ≤ maxLen) (A : Option Addr) (k c : Nat) (b : List UInt8) (hk : k ≤ 1099511627776) (hl : S.load ≤ 1099511627776) (hr : Row w1.heap.size w1 A k 1 (bts b)) (hA : ∀ a, A = some a → a.block ∉ X1.foot) :
  Calls Tryz.prog 199 #[.pointer (some ⟨X.d, 0, none⟩), .string s, .slice A k c] w1 fun e w' => e = .returned (.int .i64 ((S.write s.data.toList b).2 : Int)) ∧ ∃ X2, Gst P m X w (S.write s.data.toList b).1 M w' X2 := by
 rw [← h.acc.e]
 exact (write_any X1 S s hs A k c b hk hl w1 h.acc.dm hr hA).mono fun _ _ ⟨h1, h2⟩ => ⟨h1, h.step h2⟩
theorem Gst.append (h : Gst P m X w S M w1 X1) (s : ByteArray) (hs : s.size ≤ maxLen) (A : Option Addr) (k c : Nat) (b : List UInt8) (hk : k ≤ 1099511627776) (hr : Row w1.heap.size w1 A k 1 (bts b)) (hA : ∀ a, A = some a → a.block ∉ X1.foot) :
  Calls Tryz.prog 84 #[.pointer (some ⟨X.d, 0, none⟩), .string s, .slice A k c] w1 fun e w' => e = .returned (.int .i64 ((S.append s.data.toList b).2 : Int)) ∧ ∃ X2, Gst P m X w (S.append s.data.toList b).1 M w' X2 := by
 rw [← h.acc.e]
 exact (append_any X1 S s hs A k c b hk h.acc.dm.wf w1 h.acc.dm.dk hr (fun a ha e => hA a ha (by rw [e]; exact mem_foot.2 (.inl rfl)))).mono fun _ _ ⟨h1, h2⟩ => ⟨h1, h.step (h.acc.dm.upd (h.acc.dm.wf.append _ _) h2)⟩
theorem Gst.sync (h : Gst P m X w S M w1 X1) (s : ByteArray) (hs : s.size ≤ maxLen) :
  Calls Tryz.prog 173 #[.pointer (some ⟨X.d, 0, none⟩), .string s] w1 fun e w' => e = .returned (.int .i64 ((S.sync s.data.toList).2 : Int)) ∧ ∃ X2, Gst P m X w (S.sync s.data.toList).1 M w' X2 := by
 rw [← h.acc.e]
 exact (sync_any X1 S s hs h.acc.dm.wf w1 h.acc.dm.dk).mono fun _ _ ⟨h1, h2⟩ => ⟨h1, h.step (h.acc.dm.upd (h.acc.dm.wf.sync _) h2)⟩
theorem Gst.remove (h : Gst P m X w S M w1 X1) (s : ByteArray) (hs : s.size ≤ maxLen) (hl : S.load ≤ 1099511627776) :
  Calls Tryz.prog 100 #[.pointer (some ⟨X.d, 0, none⟩), .string s] w1 fun e w' => e = .returned (.int .i64 ((S.remove s.data.toList).2 : Int)) ∧ ∃ X2, Gst P m X w (S.remove s.data.toList).1 M w' X2 := by
 rw [← h.acc.e]
 exact (remove_any X1 S s hs h.acc.dm.wf hl w1 h.acc.dm.dk).mono fun _ _ ⟨h1, h2⟩ => ⟨h1, h.step (h.acc.dm.upd (h.acc.dm.wf.remove _) h2)⟩
theorem Gst.rename (h : Gst P m X w S M w1 X1) (s u : ByteArray) (hs : s.size ≤ maxLen) (hu : u.size ≤ maxLen) (hl : S.load ≤ 1099511627776) :
  Calls Tryz.prog 201 #[.pointer (some ⟨X.d, 0, none⟩), .string s, .string u] w1 fun e w' => e = .returned (.int .i64 ((S.rename s.data.toList u.data.toList).2 : Int)) ∧ ∃ X2, Gst P m X w (S.rename s.data.toList u.data.toList).1 M w' X2 := by
 rw [← h.acc.e]
 exact (rename_any X1 S s u hs hu h.acc.dm.wf hl w1 h.acc.dm.dk).mono fun _ _ ⟨h1, h2⟩ => ⟨h1, h.step (h.acc.dm.upd (h.acc.dm.wf.rename _ _) h2)⟩
theorem Gst.syncDir (h : Gst P m X w S M w1 X1) :
  Calls Tryz.prog 174 #[.pointer (some ⟨X.d, 0, none⟩)] w1 fun e w' => e = .returned (.int .i64 ((S.syncDir).2 : Int)) ∧ ∃ X2, Gst P m X w (S.syncDir).1 M w' X2 := by
 rw [← h.acc.e]
 exact (syncDir_any X1 S h.acc.dm.wf w1 h.acc.dm.dk).mono fun _ _ ⟨h1, h2⟩ => ⟨h1, h.step (h.acc.dm.upd h.acc.dm.wf.syncDir h2)⟩
theorem Gst.break_ (h : Gst P m X w S M w1 X1) : Calls Tryz.prog 202 #[.pointer (some ⟨m, 0, none⟩)] w1 fun e w' => e = .returned (.tuple #[]) ∧ Gst P m X w S { M with broken := true } w' X1 :=
 (gbreak_any m X.d M P w1 h.man).mono fun _ _ ⟨h1, h2, h3⟩ => ⟨h1, h.turn h3 h2 rfl⟩
theorem Gst.trans {X2 : Dw} {S2 : Sd} {M2 : Gs} (h : Gst P m X w S M w1 X1) (k : Gst P1 m X1 w1 S2 M2 w2 X2) : Gst P1 m X w S2 M2 w2 X2 := by
 refine ⟨⟨k.acc.e.trans h.acc.e, k.acc.dm, h.acc.c.trans k.acc.c (fun g hg => ?_), fun g hg => ?_⟩, by rw [← h.acc.e]; exact k.man, k.row, h.lt, h.out, h.ng⟩
 ·rcases List.mem_append.1 hg with h1 | h1
  ·exact .inl (List.mem_append_left _ h1)
  ·rcases h.acc.f g h1 with h2 | h2
   ·exact .inl (List.mem_append_right _ h2)
   ·exact .inr h2
 ·rcases k.acc.f g hg with h1 | h1
  ·exact h.acc.f g h1
  ·exact .inr (Nat.le_trans h.acc.c.size h1)
theorem Gst.anew (h : Gst P m X w S M w1 X1) : Gst P m X1 w1 S M w1 X1 := Gst.start h.acc.dm (by rw [h.acc.e]; exact h.man) h.row h.away h.ng
def GLeft (P : Sl) (m : Nat) (X : Dw) (w : World) (R : Sd × Gs × Nat) (e : Ending) (w' : World) : Prop := e = .returned (.int .i64 (R.2.2 : Int)) ∧ ∃ P' X', Gst P' m X w R.1 R.2.1 w' X' ∧ (P' = P ∨ ∀ a, P'.a = some a → w.heap.size ≤ a.block)
theorem GLeft.mk_ {S2 : Sd} {M2 : Gs} {er : Nat} {R : Sd × Gs × Nat} (hR : R = (S2, M2, er)) {X2 : Dw} (h : Gst P m X w S2 M2 w1 X2) : GLeft P m X w R (.returned (.int .i64 (er : Int))) w1 := by
 subst hR
 exact ⟨rfl, P, X2, h, .inl rfl⟩
theorem GLeft.mkN {S2 : Sd} {M2 : Gs} {er : Nat} {R : Sd × Gs × Nat} {P0 : Sl} (hR : R = (S2, M2, er)) {X2 : Dw} (h : Gst P m X w S2 M2 w1 X2) (hn : ∀ a, P.a = some a → w.heap.size ≤ a.block) : GLeft P0 m X w R (.returned (.int .i64 (er : Int))) w1 := by
 subst hR
 exact ⟨rfl, P, X2, h, .inr hn⟩
end
end Go.Proofs.YtdkjoigpahafmaaGreatDoor
