/- Texts NodH, NodI in one. No conditions. -/
import Derived.Test.YtdkjoigpahafmaaGreatDoorBunAA
import Derived.Test.YtdkjoigpahafmaaGreatDoorBunAQ
import Derived.Laws.StructEq

set_option linter.unusedSimpArgs false
set_option linter.unusedVariables false
set_option maxRecDepth 100000
set_option maxHeartbeats 16000000
namespace Go.Proofs.YtdkjoigpahafmaaGreatDoor
section
open Go Go.RowKit Go.Lib Go.Shelf
variable {w w1 w2 : World} {X X1 X2 : Dw} {S S1 S2 : Sd} {Y Y1 Y2 : Yw} {V V1 V2 : Sv} {nb now grace : Nat} {ni : Int}
def HPost (X : Dw) (Y : Yw) (w : World) (S1 : Sd) (V1 : Sv) (nb : Nat) (ni : Int) (now grace : Nat) (mf : Int) (mi : Nat) (ans : Option (Int × Nat × List It)) (e : Ending) (w' : World) : Prop := ∃ X1 Y1, X1.d = X.d ∧ Y1.s = Y.s ∧ NdAt w' X1 S1 Y1 V1 nb ni now grace ∧ Chg (XY X Y) w w' ∧ (∀ g ∈ XY X1 Y1, g ∈ XY X Y ∨ w.heap.size ≤ g) ∧
 match ans with
 | none => e = .returned (.slice none 0 0)
 | some (k, no, L) => ∃ g B n c, e = .returned (.slice (some ⟨g, 0, none⟩) 1 1) ∧ Answ w' g k ni mf mi no B n c ∧ w.heap.size ≤ g ∧ Row w'.heap.size w' B n 5 (itc L) ∧ (∀ a, B = some a → w.heap.size ≤ a.block) ∧ g ∉ XY X1 Y1 ∧ ∀ a, B = some a → a.block ∉ XY X1 Y1
theorem NdUpd.told {W : World} {k : Int} {mf : Int} {mi nn : Nat} {B : Option Addr} {n c : Nat} {L : List It} {e : Ending} (hk : NdUpd X Y W w1 S1 V1 nb ni now grace) (hb : Below w.heap.size w W) (hr : Row w1.heap.size w1 B n 5 (itc L)) (hl : ∀ a, B = some a → w.heap.size ≤ a.block ∧ ∀ X1 Y1, NdAt w1 X1 S1 Y1 V1 nb ni now grace → (∀ g ∈ XY X1 Y1, g ∈ XY X Y ∨ W.heap.size ≤ g) → a.block ∉ XY X1 Y1)
  (he : e = .returned (.slice (some ⟨w1.heap.size, 0, none⟩) 1 1)) (hb2 : Below w1.heap.size w1 w2) (ha : Answ w2 w1.heap.size k ni mf mi nn B n c) : HPost X Y w S1 V1 nb ni now grace mf mi (some (k, nn, L)) e w2 := by
 obtain ⟨X1, Y1, e1, es, h1, cc, f⟩ := hk
 have hs := cc.size
 have hs2 := hb.size
 refine ⟨X1, Y1, e1, es, h1.below hb2, ((Chg.of_below hb _).trans cc (fun g hg => .inl hg)).trans (Chg.of_below hb2 (XY X Y)) (fun g hg => .inl hg), fun g hg => (f g hg).imp (fun z => z) (Nat.le_trans hb.size), w1.heap.size, B, n, c, he, ha, by omega, (hr.below hb2).up hb2.size, fun a ha => (hl a ha).1, fun hm => ?_, fun a ha => (hl a ha).2 X1 Y1 h1 f⟩
 have := h1.at_.lt _ hm
 omega
theorem NdUpd.mute {W : World} {mf : Int} {mi : Nat} (hk : NdUpd X Y W w1 S1 V1 nb ni now grace) (hb : Below w.heap.size w W) : HPost X Y w S1 V1 nb ni now grace mf mi none (.returned (.slice none 0 0)) w1 := by
 obtain ⟨X1, Y1, e1, es, h1, cc, f⟩ := hk
 exact ⟨X1, Y1, e1, es, h1, (Chg.of_below hb _).trans cc (fun g hg => .inl hg), fun g hg => (f g hg).imp (fun z => z) (Nat.le_trans hb.size), rfl⟩
def St.put (S : Sd) (V : Sv) (l : List It) : Sd × Sv × Option (Int × Nat × List It) :=
 if (l.any fun a => decide (a.v ≤ V.M.v.floor)) = true then (S, V, some (3, V.M.v.floor, [])) else
 if (St.last S V l).2.2 = true then ((St.last S V l).1, (St.last S V l).2.1, some (2, 0, [])) else ((St.last S V l).1, (St.last S V l).2.1, none)
theorem hput_any (h : NdAt w X S Y V nb ni now grace) (hN : Nrm V) (frm : Int) (mi no : Nat) (A : Option Addr) (n c : Nat) (l : List It) (hg : (Mq.mk 1 frm ni mi no A n c).Good l) (hr : Row w.heap.size w A n 5 (itc l)) (hnc : n ≤ c) (hn : n ≤ 1000) (hA : ∀ a, A = some a → a.block ∉ XY X Y) (hfit : ∀ x ∈ l, x.fit) :
  Calls Tryz.prog 16 #[.pointer (some ⟨nb, 0, none⟩), .agg #[.int .i64 1, .int .i64 frm, .int .i64 ni, .int .u64 (mi : Int), .int .u64 (no : Int), .slice A n c]] w (HPost X Y w (St.put S V l).1 (St.put S V l).2.1 nb ni now grace frm mi (St.put S V l).2.2) := by
 obtain ⟨R, hR⟩ : ∃ R, R = St.put S V l := ⟨_, rfl⟩
 rw [← hR]
 unfold St.put at hR
 have HR := Lib.hid hR
 have HH := Lib.hid h
 clear hR
 have hb1 := (Below.refl w.heap.size w).alloc (Nat.le_refl _) (.cells #[.pointer (some ⟨nb, 0, none⟩)] 42)
 have hb2 := hb1.alloc (by simp) (.cells #[.int .i64 1, .int .i64 frm, .int .i64 ni, .int .u64 (mi : Int), .int .u64 (no : Int), .slice A n c] 47)
 have hx0 := (BoxO.new w #[.pointer (some ⟨nb, 0, none⟩)] 42).alloc (.cells #[.int .i64 1, .int .i64 frm, .int .i64 ni, .int .u64 (mi : Int), .int .u64 (no : Int), .slice A n c] 47)
 have hx1 := BoxO.new (w.alloc (.cells #[.pointer (some ⟨nb, 0, none⟩)] 42)) #[.int .i64 1, .int .i64 frm, .int .i64 ni, .int .u64 (mi : Int), .int .u64 (no : Int), .slice A n c] 47
 rw [World.size_alloc] at hx1
 have h2 := h.below hb2
 have hmf : ∀ (fn : Fn) (first cap : Array Value) (w : World), (Instr.makeFunc fn first cap).run Tryz.prog w = .ok (.func fn first cap) w := fun _ _ _ _ => rfl
 obtain ⟨W, hW⟩ : ∃ W, W = (w.alloc (.cells #[.pointer (some ⟨nb, 0, none⟩)] 42)).alloc (.cells #[.int .i64 1, .int .i64 frm, .int .i64 ni, .int .u64 (mi : Int), .int .u64 (no : Int), .slice A n c] 47) := ⟨_, rfl⟩
 obtain ⟨g0, hg0⟩ : ∃ g0, g0 = w.heap.size := ⟨_, rfl⟩
 rw [← hW] at hb2 hx0 hx1 h2
 rw [← hg0] at hx0 hx1
 have hmo := fun W' (hb : Below W.heap.size W W') => mok_yes _ l W' hg ((((hr.below hb2).up hb2.size).below hb).up hb.size)
 unfold Mq.val at hmo
 simp only at hmo
 have HMO := Lib.hid hmo
 have H2 := Lib.hid h2
 have HX := Lib.hid (And.intro hx0 hx1)
 have HB := Lib.hid hb2
 have HW := Lib.hid (And.intro hW hg0)
 have HROW := Lib.hid ((hr.below hb2).up hb2.size)
 have HL := Lib.hid (And.intro h.at_.lt (And.intro h.box.lt h.at_.dm.env.base))
 have HK := Lib.hid (fun W' (hb : Below W.heap.size W W') => And.intro (hx0.below hb) (And.intro (hx1.below hb) (h2.below hb)))
 clear hmo h2 hx0 hx1 hb1 hb2 hW hg0 hr h hg
 go_enter Tryz.func16, Tryz.ntmps16
 go_wp2_with fail
 rw [← HW.out.1, ← HW.out.2]
 refine wp_region_held_drew (S := fun w' => Below W.heap.size W w') rfl (below_drew (Below.refl _ _)) (fun hSw => ?_)
 refine wpT (i := 0) (v := ?vhpu0) ?hhpu0 hSw ?khpu0
 case hhpu0 => (intro w hSw; (obtain ⟨x, y, z⟩ := HK.out _ hSw; have x0 := x.cell 0; have y0 := y.cell 0; have y1 := y.cell 1; have y2 := y.cell 2; have y3 := y.cell 3; have y4 := y.cell 4; have y5 := y.cell 5; have z0 := z.box.cell 0; simp only [gE0, gE1] at x0 y0 y1 y2 y3 y4 y5 z0; clear x y z); go_simp; try (with_reducible rfl))
 go_simp
 refine wpAnyH_ready (rs := [1]) (by kernel_rfl) (by simp) ?_
 refine AllReadyH.cons rfl (fun K hK => ?_) AllReadyH.nil
 go_simp
 with_reducible refine (HMO.out _ hSw).mono ?_
 rintro e w3 ⟨rfl, hb3⟩
 go_simp
 refine hK.out _ _ (later_ hSw hb3) (fun hSn => ?_)
 clear hK K hSw
 have hSw := hSn
 clear hSn
 go_simp
 refine wpT (i := 2) (v := ?vhpu2) ?hhpu2 hSw ?khpu2
 case hhpu2 => (intro w hSw; (obtain ⟨x, y, z⟩ := HK.out _ hSw; have x0 := x.cell 0; have y0 := y.cell 0; have y1 := y.cell 1; have y2 := y.cell 2; have y3 := y.cell 3; have y4 := y.cell 4; have y5 := y.cell 5; have z0 := z.box.cell 0; simp only [gE0, gE1] at x0 y0 y1 y2 y3 y4 y5 z0; clear x y z); go_simp; try (with_reducible rfl))
 go_simp
 refine wpT (i := 3) (v := ?vhpu3) ?hhpu3 hSw ?khpu3
 case hhpu3 => (intro w hSw; (obtain ⟨x, y, z⟩ := HK.out _ hSw; have x0 := x.cell 0; have y0 := y.cell 0; have y1 := y.cell 1; have y2 := y.cell 2; have y3 := y.cell 3; have y4 := y.cell 4; have y5 := y.cell 5; have z0 := z.box.cell 0; simp only [gE0, gE1] at x0 y0 y1 y2 y3 y4 y5 z0; clear x y z); go_simp; try (with_reducible rfl))
 go_simp
 refine wpT (i := 4) (v := ?vhpu4) ?hhpu4 hSw ?khpu4
 case hhpu4 => (intro w hSw; (obtain ⟨x, y, z⟩ := HK.out _ hSw; have x0 := x.cell 0; have y0 := y.cell 0; have y1 := y.cell 1; have y2 := y.cell 2; have y3 := y.cell 3; have y4 := y.cell 4; have y5 := y.cell 5; have z0 := z.box.cell 0; simp only [gE0, gE1] at x0 y0 y1 y2 y3 y4 y5 z0; clear x y z); go_simp; try (with_reducible rfl))
 go_simp
 refine wpT (i := 5) (v := ?vhpu5) ?hhpu5 hSw ?khpu5
 case hhpu5 => (intro w hSw; (obtain ⟨x, y, z⟩ := HK.out _ hSw; have x0 := x.cell 0; have y0 := y.cell 0; have y1 := y.cell 1; have y2 := y.cell 2; have y3 := y.cell 3; have y4 := y.cell 4; have y5 := y.cell 5; have z0 := z.box.cell 0; simp only [gE0, gE1] at x0 y0 y1 y2 y3 y4 y5 z0; clear x y z); go_simp; try (with_reducible rfl))
 go_simp
 refine wpT (i := 6) (v := ?vhpu6) ?hhpu6 hSw ?khpu6
 case hhpu6 => (intro w hSw; (obtain ⟨x, y, z⟩ := HK.out _ hSw; have x0 := x.cell 0; have y0 := y.cell 0; have y1 := y.cell 1; have y2 := y.cell 2; have y3 := y.cell 3; have y4 := y.cell 4; have y5 := y.cell 5; have z0 := z.box.cell 0; simp only [gE0, gE1] at x0 y0 y1 y2 y3 y4 y5 z0; clear x y z); go_simp; try (with_reducible rfl))
 go_simp
 refine wpT (i := 7) (v := ?vhpu7) ?hhpu7 hSw ?khpu7
 case hhpu7 => (intro w hSw; (obtain ⟨x, y, z⟩ := HK.out _ hSw; have x0 := x.cell 0; have y0 := y.cell 0; have y1 := y.cell 1; have y2 := y.cell 2; have y3 := y.cell 3; have y4 := y.cell 4; have y5 := y.cell 5; have z0 := z.box.cell 0; simp only [gE0, gE1] at x0 y0 y1 y2 y3 y4 y5 z0; clear x y z); go_simp; try (with_reducible rfl))
 go_simp
 refine wpT (i := 8) (v := ?vhpu8) ?hhpu8 hSw ?khpu8
 case hhpu8 => (intro w hSw; (obtain ⟨x, y, z⟩ := HK.out _ hSw; have x0 := x.cell 0; have y0 := y.cell 0; have y1 := y.cell 1; have y2 := y.cell 2; have y3 := y.cell 3; have y4 := y.cell 4; have y5 := y.cell 5; have z0 := z.box.cell 0; simp only [gE0, gE1] at x0 y0 y1 y2 y3 y4 y5 z0; clear x y z); go_simp; try (with_reducible rfl))
 go_simp
 refine wpT (i := 9) (v := ?vhpu9) ?hhpu9 hSw ?khpu9
 case hhpu9 => (intro w hSw; (obtain ⟨x, y, z⟩ := HK.out _ hSw; have x0 := x.cell 0; have y0 := y.cell 0; have y1 := y.cell 1; have y2 := y.cell 2; have y3 := y.cell 3; have y4 := y.cell 4; have y5 := y.cell 5; have z0 := z.box.cell 0; simp only [gE0, gE1] at x0 y0 y1 y2 y3 y4 y5 z0; clear x y z); go_simp; try (with_reducible rfl))
 go_simp
 refine wpT (i := 10) (v := ?vhpu10) ?hhpu10 hSw ?khpu10
 case hhpu10 => (intro w hSw; (obtain ⟨x, y, z⟩ := HK.out _ hSw; have x0 := x.cell 0; have y0 := y.cell 0; have y1 := y.cell 1; have y2 := y.cell 2; have y3 := y.cell 3; have y4 := y.cell 4; have y5 := y.cell 5; have z0 := z.box.cell 0; simp only [gE0, gE1] at x0 y0 y1 y2 y3 y4 y5 z0; clear x y z); go_simp; try (with_reducible rfl))
 go_simp
 refine wpT (i := 11) (v := ?vhpu11) ?hhpu11 hSw ?khpu11
 case hhpu11 => (intro w hSw; (obtain ⟨x, y, z⟩ := HK.out _ hSw; have x0 := x.cell 0; have y0 := y.cell 0; have y1 := y.cell 1; have y2 := y.cell 2; have y3 := y.cell 3; have y4 := y.cell 4; have y5 := y.cell 5; have z0 := z.box.cell 0; simp only [gE0, gE1] at x0 y0 y1 y2 y3 y4 y5 z0; clear x y z); go_simp; try (with_reducible rfl))
 go_simp
 refine wpAnyH_done (by kernel_rfl) ?_ _
 have hb4 := later_ (below_drew (Below.refl W.heap.size W)) hb3
 clear hSw hb3 HMO
 obtain ⟨x, y, z⟩ := HK.out _ hb4
 have x0 := x.cell 0
 have z1 := z.box.cell 1
 simp only [gE0, gE1] at x0 z1
 have HME := Lib.hid (smeta_any z.at_ (by have := hN.files; omega))
 have HB4 := Lib.hid hb4
 clear x y z hb4
 go_wp2_with fail
 with_reducible refine HME.out.mono ?_
 rintro e w4 ⟨rfl, hb5⟩
 obtain ⟨mt, hmt⟩ : ∃ mt, mt = St.meta_ V := ⟨_, rfl⟩
 have HB5 := Lib.hid (later_ HB4.out hb5)
 have hb6 := later_ HB5.out ((Below.refl w4.heap.size w4).alloc (Nat.le_refl _) (.cells #[.int .u64 (mt.floor : Int), .int .u64 (mt.cert : Int), .int .u64 (mt.at_ : Int), .int .u64 (mt.lease : Int)] 32))
 have HX6 := Lib.hid (BoxO.new w4 #[.int .u64 (mt.floor : Int), .int .u64 (mt.cert : Int), .int .u64 (mt.at_ : Int), .int .u64 (mt.lease : Int)] 32)
 have HB6 := Lib.hid hb6
 rw [← hmt]
 unfold Mt.val
 have HMT := Lib.hid hmt
 clear hmt hb5 HME x0 z1 hb6
 obtain ⟨x, y, z⟩ := HK.out _ HB6.out
 have x0 := x.cell 0
 have y0 := y.cell 0
 have y1 := y.cell 1
 have y3 := y.cell 3
 have y4 := y.cell 4
 have y5 := y.cell 5
 have z0 := z.box.cell 0
 have z1 := z.box.cell 1
 simp only [gE0, gE1] at x0 y0 y1 y3 y4 y5 z0 z1
 have hal := allow_any mt A n c l _ (by omega) ((HROW.out.below HB6.out).up HB6.out.size)
 obtain ⟨ab, hab⟩ : ∃ ab, ab = l.any fun a => decide (a.v ≤ mt.floor) := ⟨_, rfl⟩
 rw [← hab] at hal
 unfold Mt.val at hal
 have hR := HR.out
 rw [show (l.any fun a => decide (a.v ≤ V.M.v.floor)) = ab by rw [hab, HMT.out]; rfl] at hR
 have HR2 := Lib.hid hR
 have HAL := Lib.hid hal
 clear x y z hal hab hR HR
 go_wp2_with fail
 with_reducible refine HAL.out.mono ?_
 rintro e w7 ⟨rfl, hb7⟩
 have HB7 := Lib.hid (later_ HB6.out hb7)
 have hm7 := HX6.out.below hb7
 clear x0 y0 y1 y3 y4 y5 z0 z1 hb7 HAL
 obtain ⟨x, y, z⟩ := HK.out _ HB7.out
 have x0 := x.cell 0
 have y1 := y.cell 1
 have y3 := y.cell 3
 have y5 := y.cell 5
 have z0 := z.box.cell 0
 have m0 := hm7.cell 0
 simp only [gE0, gE1] at x0 y1 y3 y5 z0 m0
 cases ab with
 | true =>
  have hR := HR2.out
  rw [if_pos rfl] at hR
  have HAN := Lib.hid (answer_any g0 (g0 + 1) nb frm ni 3 mi mt.floor none 0 0 w7 x0 z0 y1 y3)
  have HZ : Hid (∀ e w', e = .returned (.slice (some ⟨w7.heap.size, 0, none⟩) 1 1) → Below w7.heap.size w7 w' → Answ w' w7.heap.size 3 ni frm mi mt.floor none 0 0 → HPost X Y w R.1 R.2.1 nb ni now grace frm mi R.2.2 e w') := Lib.hid (by
   intro e w' h1 h2 h3
   rw [hR, show V.M.v.floor = mt.floor by rw [HMT.out]; rfl]
   exact (NdUpd.same HH.out (HB.out.trans (HB7.out.mono HB.out.size))).told (W := w) (Below.refl _ _) Row.nil_ (fun a ha => by cases ha) h1 h2 h3)
  clear hR x y z hm7
  go_wp2_with fail
  with_reducible refine HAN.out.mono ?_
  rintro e w8 ⟨rfl, h8, ha8⟩
  have HY := Lib.hid (HZ.out _ _ rfl h8 ha8)
  clear h8 ha8 HZ HAN
  go_wp2
  go_ret
  exact HY.out
 | false =>
  have hR := HR2.out
  rw [if_neg (by simp)] at hR
  obtain ⟨hl1, hl2, hl3⟩ := HL.out
  have hgx : ∀ g, w.heap.size ≤ g → g ∉ XY X Y := fun g hg hm => by have := hl1 g hm; omega
  have hla := nlast_any z hN A n c l hn hnc ((HROW.out.below HB7.out).up HB7.out.size) hA hfit
  obtain ⟨r, hr⟩ : ∃ r, r = St.last S V l := ⟨_, rfl⟩
  rw [← hr] at hla hR
  obtain ⟨S1, V1, b⟩ := r
  simp only at hla hR
  have HLA := Lib.hid hla
  have HR3 := Lib.hid hR
  have HXY := Lib.hid (And.intro x y)
  have HGX := Lib.hid hgx
  clear hla hR hr hl1 hl2 hl3 hgx x y z hm7
  go_wp2_with fail
  with_reducible refine HLA.out.mono ?_
  rintro e w8 ⟨rfl, hu⟩
  have hR := HR3.out
  have HU := Lib.hid hu
  cases b with
  | false =>
   rw [if_neg (by simp)] at hR
   have HZ : Hid (HPost X Y w R.1 R.2.1 nb ni now grace frm mi R.2.2 (.returned (.slice none 0 0)) w8) := Lib.hid (by
    rw [hR]
    exact HU.out.mute (HB.out.trans (HB7.out.mono HB.out.size)))
   clear hR hu
   go_wp2
   go_ret
   exact HZ.out
  | true =>
   rw [if_pos rfl] at hR
   obtain ⟨X1, Y1, e1, es, h8, c8, f8⟩ := hu
   have hg := HW.out.2
   have q0 := (HXY.out.1.chg c8 (HGX.out _ (by omega))).cell 0
   have q1 := (HXY.out.2.chg c8 (HGX.out _ (by omega))).cell 1
   have q3 := (HXY.out.2.chg c8 (HGX.out _ (by omega))).cell 3
   have p0 := h8.box.cell 0
   simp only [gE0, gE1] at q0 q1 q3 p0
   have han := answer_any g0 (g0 + 1) nb frm ni 2 mi 0 none 0 0 w8 q0 p0 q1 q3
   rw [show ((0 : Nat) : Int) = 0 from rfl] at han
   have HAN := Lib.hid han
   have HZ : Hid (∀ e w', e = .returned (.slice (some ⟨w8.heap.size, 0, none⟩) 1 1) → Below w8.heap.size w8 w' → Answ w' w8.heap.size 2 ni frm mi 0 none 0 0 → HPost X Y w R.1 R.2.1 nb ni now grace frm mi R.2.2 e w') := Lib.hid (by
    intro e w' h1 h2 h3
    rw [hR]
    exact HU.out.told (HB.out.trans (HB7.out.mono HB.out.size)) Row.nil_ (fun a ha => by cases ha) h1 h2 h3)
   clear hR hg e1 es h8 c8 f8 han
   go_wp2_with fail
   with_reducible refine HAN.out.mono ?_
   rintro e w9 ⟨rfl, h9, ha9⟩
   have HY := Lib.hid (HZ.out _ _ rfl h9 ha9)
   clear h9 ha9 HZ HAN q0 q1 q3 p0
   go_wp2
   go_ret
   exact HY.out
end
section
open Go Go.RowKit Go.Lib Go.Shelf
variable {w w1 w2 : World} {X X1 X2 : Dw} {S S1 S2 : Sd} {Y Y1 Y2 : Yw} {V V1 V2 : Sv} {nb now grace : Nat} {ni : Int}
theorem HPost.up {mf : Int} {mi : Nat} {ans : Option (Int × Nat × List It)} {e : Ending} (e1 : X1.d = X.d) (e2 : Y1.s = Y.s) (c : Chg (XY X Y) w w1) (hf : ∀ g ∈ XY X1 Y1, g ∈ XY X Y ∨ w.heap.size ≤ g) (k : HPost X1 Y1 w1 S1 V1 nb ni now grace mf mi ans e w2) : HPost X Y w S1 V1 nb ni now grace mf mi ans e w2 := by
 obtain ⟨X2, Y2, q1, q2, h, c2, f2, r⟩ := k
 refine ⟨X2, Y2, q1.trans e1, q2.trans e2, h, c.trans c2 hf, fun g hg => ?_, ?_⟩
 ·rcases f2 g hg with q | q
  ·exact hf g q
  ·exact .inr (Nat.le_trans c.size q)
 ·cases ans with
  | none => exact r
  | some a =>
   obtain ⟨g, B, n, cc, z1, z2, z3, z4, z5, z6⟩ := r
   exact ⟨g, B, n, cc, z1, z2, Nat.le_trans c.size z3, z4, fun a ha => Nat.le_trans c.size (z5 a ha), z6⟩
theorem NdAt.told (h : NdAt w X S Y V nb ni now grace) {k : Int} {mf : Int} {mi nn : Nat} {B : Option Addr} {n c : Nat} {L : List It} (hb : Below w.heap.size w w1) (hr : Row w1.heap.size w1 B n 5 (itc L)) (hl : ∀ a, B = some a → w.heap.size ≤ a.block)
  (hb2 : Below w1.heap.size w1 w2) (ha : Answ w2 w1.heap.size k ni mf mi nn B n c) : HPost X Y w S V nb ni now grace mf mi (some (k, nn, L)) (.returned (.slice (some ⟨w1.heap.size, 0, none⟩) 1 1)) w2 := by
 have hx := h.at_.lt
 have hs := hb.size
 exact ⟨X, Y, rfl, rfl, (h.below hb).below hb2, Chg.of_below (later_ hb hb2) _, fun _ hg => .inl hg, _, B, n, c, rfl, ha, hs, (hr.below hb2).up hb2.size, hl, fun hm => by have := hx _ hm; omega, fun a ha hm => by have := hx _ hm; have := hl a ha; omega⟩
theorem hask_any (h : NdAt w X S Y V nb ni now grace) (hN : Nrm V) (frm : Int) (mi no : Nat) (A : Option Addr) (n c : Nat) (l : List It) (hg : (Mq.mk 4 frm ni mi no A n c).Good l) (hr : Row w.heap.size w A n 5 (itc l)) (hno : no ≤ 255) :
  Calls Tryz.prog 16 #[.pointer (some ⟨nb, 0, none⟩), .agg #[.int .i64 4, .int .i64 frm, .int .i64 ni, .int .u64 (mi : Int), .int .u64 (no : Int), .slice A n c]] w (HPost X Y w S V nb ni now grace frm mi (some (5, V.M.v.cert, V.st.filter fun a => a.s == (no : Int)))) := by
 have HH := Lib.hid h
 have hb1 := (Below.refl w.heap.size w).alloc (Nat.le_refl _) (.cells #[.pointer (some ⟨nb, 0, none⟩)] 42)
 have hb2 := hb1.alloc (by simp) (.cells #[.int .i64 4, .int .i64 frm, .int .i64 ni, .int .u64 (mi : Int), .int .u64 (no : Int), .slice A n c] 47)
 have hx0 := (BoxO.new w #[.pointer (some ⟨nb, 0, none⟩)] 42).alloc (.cells #[.int .i64 4, .int .i64 frm, .int .i64 ni, .int .u64 (mi : Int), .int .u64 (no : Int), .slice A n c] 47)
 have hx1 := BoxO.new (w.alloc (.cells #[.pointer (some ⟨nb, 0, none⟩)] 42)) #[.int .i64 4, .int .i64 frm, .int .i64 ni, .int .u64 (mi : Int), .int .u64 (no : Int), .slice A n c] 47
 rw [World.size_alloc] at hx1
 have h2 := h.below hb2
 have hmf : ∀ (fn : Fn) (first cap : Array Value) (w : World), (Instr.makeFunc fn first cap).run Tryz.prog w = .ok (.func fn first cap) w := fun _ _ _ _ => rfl
 obtain ⟨W, hW⟩ : ∃ W, W = (w.alloc (.cells #[.pointer (some ⟨nb, 0, none⟩)] 42)).alloc (.cells #[.int .i64 4, .int .i64 frm, .int .i64 ni, .int .u64 (mi : Int), .int .u64 (no : Int), .slice A n c] 47) := ⟨_, rfl⟩
 obtain ⟨g0, hg0⟩ : ∃ g0, g0 = w.heap.size := ⟨_, rfl⟩
 rw [← hW] at hb2 hx0 hx1 h2
 rw [← hg0] at hx0 hx1
 have hmo := fun W' (hb : Below W.heap.size W W') => mok_yes _ l W' hg ((((hr.below hb2).up hb2.size).below hb).up hb.size)
 unfold Mq.val at hmo
 simp only at hmo
 have HMO := Lib.hid hmo
 have H2 := Lib.hid h2
 have HX := Lib.hid (And.intro hx0 hx1)
 have HB := Lib.hid hb2
 have HW := Lib.hid (And.intro hW hg0)
 have HROW := Lib.hid ((hr.below hb2).up hb2.size)
 have HL := Lib.hid (And.intro h.at_.lt (And.intro h.box.lt h.at_.dm.env.base))
 have HK := Lib.hid (fun W' (hb : Below W.heap.size W W') => And.intro (hx0.below hb) (And.intro (hx1.below hb) (h2.below hb)))
 clear hmo h2 hx0 hx1 hb1 hb2 hW hg0 hr h hg
 go_enter Tryz.func16, Tryz.ntmps16
 go_wp2_with fail
 rw [← HW.out.1, ← HW.out.2]
 refine wp_region_held_drew (S := fun w' => Below W.heap.size W w') rfl (below_drew (Below.refl _ _)) (fun hSw => ?_)
 refine wpT (i := 0) (v := ?vhas0) ?hhas0 hSw ?khas0
 case hhas0 => (intro w hSw; (obtain ⟨x, y, z⟩ := HK.out _ hSw; have x0 := x.cell 0; have y0 := y.cell 0; have y1 := y.cell 1; have y2 := y.cell 2; have y3 := y.cell 3; have y4 := y.cell 4; have y5 := y.cell 5; have z0 := z.box.cell 0; simp only [gE0, gE1] at x0 y0 y1 y2 y3 y4 y5 z0; clear x y z); go_simp; try (with_reducible rfl))
 go_simp
 refine wpAnyH_ready (rs := [1]) (by kernel_rfl) (by simp) ?_
 refine AllReadyH.cons rfl (fun K hK => ?_) AllReadyH.nil
 go_simp
 with_reducible refine (HMO.out _ hSw).mono ?_
 rintro e w3 ⟨rfl, hb3⟩
 go_simp
 refine hK.out _ _ (later_ hSw hb3) (fun hSn => ?_)
 clear hK K hSw
 have hSw := hSn
 clear hSn
 go_simp
 refine wpT (i := 2) (v := ?vhas2) ?hhas2 hSw ?khas2
 case hhas2 => (intro w hSw; (obtain ⟨x, y, z⟩ := HK.out _ hSw; have x0 := x.cell 0; have y0 := y.cell 0; have y1 := y.cell 1; have y2 := y.cell 2; have y3 := y.cell 3; have y4 := y.cell 4; have y5 := y.cell 5; have z0 := z.box.cell 0; simp only [gE0, gE1] at x0 y0 y1 y2 y3 y4 y5 z0; clear x y z); go_simp; try (with_reducible rfl))
 go_simp
 refine wpT (i := 3) (v := ?vhas3) ?hhas3 hSw ?khas3
 case hhas3 => (intro w hSw; (obtain ⟨x, y, z⟩ := HK.out _ hSw; have x0 := x.cell 0; have y0 := y.cell 0; have y1 := y.cell 1; have y2 := y.cell 2; have y3 := y.cell 3; have y4 := y.cell 4; have y5 := y.cell 5; have z0 := z.box.cell 0; simp only [gE0, gE1] at x0 y0 y1 y2 y3 y4 y5 z0; clear x y z); go_simp; try (with_reducible rfl))
 go_simp
 refine wpT (i := 4) (v := ?vhas4) ?hhas4 hSw ?khas4
 case hhas4 => (intro w hSw; (obtain ⟨x, y, z⟩ := HK.out _ hSw; have x0 := x.cell 0; have y0 := y.cell 0; have y1 := y.cell 1; have y2 := y.cell 2; have y3 := y.cell 3; have y4 := y.cell 4; have y5 := y.cell 5; have z0 := z.box.cell 0; simp only [gE0, gE1] at x0 y0 y1 y2 y3 y4 y5 z0; clear x y z); go_simp; try (with_reducible rfl))
 go_simp
 refine wpT (i := 5) (v := ?vhas5) ?hhas5 hSw ?khas5
 case hhas5 => (intro w hSw; (obtain ⟨x, y, z⟩ := HK.out _ hSw; have x0 := x.cell 0; have y0 := y.cell 0; have y1 := y.cell 1; have y2 := y.cell 2; have y3 := y.cell 3; have y4 := y.cell 4; have y5 := y.cell 5; have z0 := z.box.cell 0; simp only [gE0, gE1] at x0 y0 y1 y2 y3 y4 y5 z0; clear x y z); go_simp; try (with_reducible rfl))
 go_simp
 refine wpT (i := 6) (v := ?vhas6) ?hhas6 hSw ?khas6
 case hhas6 => (intro w hSw; (obtain ⟨x, y, z⟩ := HK.out _ hSw; have x0 := x.cell 0; have y0 := y.cell 0; have y1 := y.cell 1; have y2 := y.cell 2; have y3 := y.cell 3; have y4 := y.cell 4; have y5 := y.cell 5; have z0 := z.box.cell 0; simp only [gE0, gE1] at x0 y0 y1 y2 y3 y4 y5 z0; clear x y z); go_simp; try (with_reducible rfl))
 go_simp
 refine wpT (i := 7) (v := ?vhas7) ?hhas7 hSw ?khas7
 case hhas7 => (intro w hSw; (obtain ⟨x, y, z⟩ := HK.out _ hSw; have x0 := x.cell 0; have y0 := y.cell 0; have y1 := y.cell 1; have y2 := y.cell 2; have y3 := y.cell 3; have y4 := y.cell 4; have y5 := y.cell 5; have z0 := z.box.cell 0; simp only [gE0, gE1] at x0 y0 y1 y2 y3 y4 y5 z0; clear x y z); go_simp; try (with_reducible rfl))
 go_simp
 refine wpT (i := 8) (v := ?vhas8) ?hhas8 hSw ?khas8
 case hhas8 => (intro w hSw; (obtain ⟨x, y, z⟩ := HK.out _ hSw; have x0 := x.cell 0; have y0 := y.cell 0; have y1 := y.cell 1; have y2 := y.cell 2; have y3 := y.cell 3; have y4 := y.cell 4; have y5 := y.cell 5; have z0 := z.box.cell 0; simp only [gE0, gE1] at x0 y0 y1 y2 y3 y4 y5 z0; clear x y z); go_simp; try (with_reducible rfl))
 go_simp
 refine wpT (i := 9) (v := ?vhas9) ?hhas9 hSw ?khas9
 case hhas9 => (intro w hSw; (obtain ⟨x, y, z⟩ := HK.out _ hSw; have x0 := x.cell 0; have y0 := y.cell 0; have y1 := y.cell 1; have y2 := y.cell 2; have y3 := y.cell 3; have y4 := y.cell 4; have y5 := y.cell 5; have z0 := z.box.cell 0; simp only [gE0, gE1] at x0 y0 y1 y2 y3 y4 y5 z0; clear x y z); go_simp; try (with_reducible rfl))
 go_simp
 refine wpT (i := 10) (v := ?vhas10) ?hhas10 hSw ?khas10
 case hhas10 => (intro w hSw; (obtain ⟨x, y, z⟩ := HK.out _ hSw; have x0 := x.cell 0; have y0 := y.cell 0; have y1 := y.cell 1; have y2 := y.cell 2; have y3 := y.cell 3; have y4 := y.cell 4; have y5 := y.cell 5; have z0 := z.box.cell 0; simp only [gE0, gE1] at x0 y0 y1 y2 y3 y4 y5 z0; clear x y z); go_simp; try (with_reducible rfl))
 go_simp
 refine wpT (i := 11) (v := ?vhas11) ?hhas11 hSw ?khas11
 case hhas11 => (intro w hSw; (obtain ⟨x, y, z⟩ := HK.out _ hSw; have x0 := x.cell 0; have y0 := y.cell 0; have y1 := y.cell 1; have y2 := y.cell 2; have y3 := y.cell 3; have y4 := y.cell 4; have y5 := y.cell 5; have z0 := z.box.cell 0; simp only [gE0, gE1] at x0 y0 y1 y2 y3 y4 y5 z0; clear x y z); go_simp; try (with_reducible rfl))
 go_simp
 refine wpAnyH_done (by kernel_rfl) ?_ _
 have hb4 := later_ (below_drew (Below.refl W.heap.size W)) hb3
 clear hSw hb3 HMO
 obtain ⟨x, y, z⟩ := HK.out _ hb4
 have x0 := x.cell 0
 have z1 := z.box.cell 1
 simp only [gE0, gE1] at x0 z1
 have HME := Lib.hid (smeta_any z.at_ (by have := hN.files; omega))
 have HB4 := Lib.hid hb4
 clear x y z hb4
 go_wp2_with fail
 with_reducible refine HME.out.mono ?_
 rintro e w4 ⟨rfl, hb5⟩
 obtain ⟨mt, hmt⟩ : ∃ mt, mt = St.meta_ V := ⟨_, rfl⟩
 have HB5 := Lib.hid (later_ HB4.out hb5)
 have hb6 := later_ HB5.out ((Below.refl w4.heap.size w4).alloc (Nat.le_refl _) (.cells #[.int .u64 (mt.floor : Int), .int .u64 (mt.cert : Int), .int .u64 (mt.at_ : Int), .int .u64 (mt.lease : Int)] 32))
 have HX6 := Lib.hid (BoxO.new w4 #[.int .u64 (mt.floor : Int), .int .u64 (mt.cert : Int), .int .u64 (mt.at_ : Int), .int .u64 (mt.lease : Int)] 32)
 have HB6 := Lib.hid hb6
 rw [← hmt]
 unfold Mt.val
 have HMT := Lib.hid hmt
 clear hmt hb5 HME x0 z1 hb6
 obtain ⟨x, y, z⟩ := HK.out _ HB6.out
 have x0 := x.cell 0
 have y0 := y.cell 0
 have y1 := y.cell 1
 have y3 := y.cell 3
 have y4 := y.cell 4
 have y5 := y.cell 5
 have z0 := z.box.cell 0
 have z1 := z.box.cell 1
 simp only [gE0, gE1] at x0 y0 y1 y3 y4 y5 z0 z1
 have e1 : ((no : Int) ≤ (255 : Int)) = True := eq_true (by omega)
 have hwn : IntKind.i64.wrap (no : Int) = (no : Int) := IntWalk.i64_in _ (by omega)
 obtain ⟨W6, hW6⟩ : ∃ W6, W6 = w4.alloc (.cells #[.int .u64 (mt.floor : Int), .int .u64 (mt.cert : Int), .int .u64 (mt.at_ : Int), .int .u64 (mt.lease : Int)] 32) := ⟨_, rfl⟩
 have HK6 : Hid (∀ W', Below W6.heap.size W6 W' → BoxO W' 42 g0 [.pointer (some ⟨nb, 0, none⟩)] ∧ BoxO W' 47 (g0 + 1) [.int .i64 4, .int .i64 frm, .int .i64 ni, .int .u64 (mi : Int), .int .u64 (no : Int), .slice A n c] ∧ NdAt W' X S Y V nb ni now grace ∧ BoxO W' 32 w4.heap.size [.int .u64 (mt.floor : Int), .int .u64 (mt.cert : Int), .int .u64 (mt.at_ : Int), .int .u64 (mt.lease : Int)]) := Lib.hid (fun W' hb => by
  rw [hW6] at hb
  have q := HK.out W' (later_ HB6.out hb)
  exact ⟨q.1, q.2.1, q.2.2, HX6.out.below hb⟩)
 have HW6 := Lib.hid hW6
 have HAN := Lib.hid (fun W' (hb : Below W6.heap.size W6 W') B nn cc => (by
  obtain ⟨q1, q2, q3, _⟩ := HK6.out W' hb
  exact answer_any g0 (g0 + 1) nb frm ni 5 mi mt.cert B nn cc W' (q1.cell 0) (q3.box.cell 0) (q2.cell 1) (q2.cell 3) : Calls Tryz.prog 42 #[.int .i64 5, .int .u64 (mt.cert : Int), .slice B nn cc, .pointer (some ⟨g0, 0, none⟩), .pointer (some ⟨g0 + 1, 0, none⟩)] W' fun e w' => e = .returned (.slice (some ⟨W'.heap.size, 0, none⟩) 1 1) ∧ Below W'.heap.size W' w' ∧ Answ w' W'.heap.size 5 ni frm mi mt.cert B nn cc))
 have HSE := Lib.hid (fun W' (hb : Below W6.heap.size W6 W') => sseriesS_any (HK6.out W' hb).2.2.1.at_ (by have := hN.len; omega) (no : Int))
 clear x y z hW6
 go_wp2_with fail
 rw [← HW6.out]
 clear x0 y0 y1 y3 y4 y5 z0 z1
 refine wp_region_held_drew (S := fun w' => Below W6.heap.size W6 w') rfl (below_drew (Below.refl _ _)) (fun hSw => ?_)
 refine wpT (i := 0) (v := ?vhq0) ?hhq0 hSw ?khq0
 case hhq0 => (intro w hSw; (obtain ⟨x, y, z, q⟩ := HK6.out _ hSw; have x0 := x.cell 0; have y4 := y.cell 4; have z1 := z.box.cell 1; have q1 := q.cell 1; simp only [gE0, gE1] at x0 y4 z1 q1; clear x y z q); go_simp; try (with_reducible rfl))
 go_simp
 refine wpT (i := 1) (v := ?vhq1) ?hhq1 hSw ?khq1
 case hhq1 => (intro w hSw; (obtain ⟨x, y, z, q⟩ := HK6.out _ hSw; have x0 := x.cell 0; have y4 := y.cell 4; have z1 := z.box.cell 1; have q1 := q.cell 1; simp only [gE0, gE1] at x0 y4 z1 q1; clear x y z q); go_simp; try (with_reducible rfl))
 go_simp
 refine wpT (i := 2) (v := ?vhq2) ?hhq2 hSw ?khq2
 case hhq2 => (intro w hSw; (obtain ⟨x, y, z, q⟩ := HK6.out _ hSw; have x0 := x.cell 0; have y4 := y.cell 4; have z1 := z.box.cell 1; have q1 := q.cell 1; simp only [gE0, gE1] at x0 y4 z1 q1; clear x y z q); go_simp; try (with_reducible rfl))
 go_simp
 refine wpT (i := 3) (v := ?vhq3) ?hhq3 hSw ?khq3
 case hhq3 => (intro w hSw; (obtain ⟨x, y, z, q⟩ := HK6.out _ hSw; have x0 := x.cell 0; have y4 := y.cell 4; have z1 := z.box.cell 1; have q1 := q.cell 1; simp only [gE0, gE1] at x0 y4 z1 q1; clear x y z q); go_simp; try (with_reducible rfl))
 go_simp
 refine wpT (i := 4) (v := ?vhq4) ?hhq4 hSw ?khq4
 case hhq4 => (intro w hSw; (obtain ⟨x, y, z, q⟩ := HK6.out _ hSw; have x0 := x.cell 0; have y4 := y.cell 4; have z1 := z.box.cell 1; have q1 := q.cell 1; simp only [gE0, gE1] at x0 y4 z1 q1; clear x y z q); go_simp; try (with_reducible rfl))
 go_simp
 refine wpT (i := 5) (v := ?vhq5) ?hhq5 hSw ?khq5
 case hhq5 => (intro w hSw; (obtain ⟨x, y, z, q⟩ := HK6.out _ hSw; have x0 := x.cell 0; have y4 := y.cell 4; have z1 := z.box.cell 1; have q1 := q.cell 1; simp only [gE0, gE1] at x0 y4 z1 q1; clear x y z q); go_simp; try (with_reducible rfl))
 go_simp
 refine wpT (i := 6) (v := ?vhq6) ?hhq6 hSw ?khq6
 case hhq6 => (intro w hSw; (obtain ⟨x, y, z, q⟩ := HK6.out _ hSw; have x0 := x.cell 0; have y4 := y.cell 4; have z1 := z.box.cell 1; have q1 := q.cell 1; simp only [gE0, gE1] at x0 y4 z1 q1; clear x y z q); go_simp; try (with_reducible rfl))
 go_simp
 refine wpT (i := 7) (v := ?vhq7) ?hhq7 hSw ?khq7
 case hhq7 => (intro w hSw; (obtain ⟨x, y, z, q⟩ := HK6.out _ hSw; have x0 := x.cell 0; have y4 := y.cell 4; have z1 := z.box.cell 1; have q1 := q.cell 1; simp only [gE0, gE1] at x0 y4 z1 q1; clear x y z q); go_simp; try (with_reducible rfl))
 go_simp
 refine wpT (i := 8) (v := ?vhq8) ?hhq8 hSw ?khq8
 case hhq8 => (intro w hSw; (obtain ⟨x, y, z, q⟩ := HK6.out _ hSw; have x0 := x.cell 0; have y4 := y.cell 4; have z1 := z.box.cell 1; have q1 := q.cell 1; simp only [gE0, gE1] at x0 y4 z1 q1; clear x y z q); go_simp; try (with_reducible rfl))
 go_simp
 refine wpT (i := 9) (v := ?vhq9) ?hhq9 hSw ?khq9
 case hhq9 => (intro w hSw; (obtain ⟨x, y, z, q⟩ := HK6.out _ hSw; have x0 := x.cell 0; have y4 := y.cell 4; have z1 := z.box.cell 1; have q1 := q.cell 1; simp only [gE0, gE1] at x0 y4 z1 q1; clear x y z q); go_simp; try (with_reducible rfl))
 go_simp
 refine wpAnyH_ready (rs := [10]) (by kernel_rfl) (by simp) ?_
 refine AllReadyH.cons rfl (fun K hK => ?_) AllReadyH.nil
 go_simp
 with_reducible refine (HSE.out _ hSw).mono ?_
 rintro e w7 ⟨A7, k7, rfl, hk7, hi7, hb7⟩; clear hk7
 go_simp
 refine hK.out _ _ (later_ hSw hb7) (fun hSn => ?_)
 clear hK K hSw
 have hSw := hSn
 clear hSn
 go_simp
 refine wpAnyH_ready (rs := [11]) (by kernel_rfl) (by simp) ?_
 refine AllReadyH.cons rfl (fun K hK => ?_) AllReadyH.nil
 go_simp
 with_reducible refine (HAN.out _ hSw A7 k7 k7).mono ?_
 rintro e w8 ⟨rfl, hb8, ha8⟩
 go_simp
 refine hK.out _ _ (later_ hSw hb8) (fun hSn => ?_)
 clear hK K hSw
 have hSw := hSn
 clear hSn
 go_simp
 refine wpT (i := 12) (v := ?vhq12) ?hhq12 hSw ?khq12
 case hhq12 => (intro w hSw; (obtain ⟨x, y, z, q⟩ := HK6.out _ hSw; have x0 := x.cell 0; have y4 := y.cell 4; have z1 := z.box.cell 1; have q1 := q.cell 1; simp only [gE0, gE1] at x0 y4 z1 q1; clear x y z q); go_simp; try (with_reducible rfl))
 go_simp
 refine wpAnyH_done (by kernel_rfl) ?_ _
 have hb6 : Below w.heap.size w W6 := HB.out.trans ((by rw [HW6.out]; exact HB6.out : Below W.heap.size W W6).mono HB.out.size)
 have hz : HPost X Y w S V nb ni now grace frm mi (some (5, V.M.v.cert, V.st.filter fun a => a.s == (no : Int))) (.returned (.slice (some ⟨w7.heap.size, 0, none⟩) 1 1)) w8 := by
  have e2 : V.M.v.cert = mt.cert := by rw [HMT.out]; rfl
  rw [e2]
  have hb67 : Below w.heap.size w w7 := later_ hb6 (later_ (below_drew (Below.refl _ _)) hb7)
  exact HH.out.told hb67 hi7.row (fun a ha => Nat.le_trans hb6.size (hi7.low a ha)) hb8 ha8
 have HZ := Lib.hid hz
 clear hz hb6 hSw hb7 hi7 hb8 ha8 HAN HSE
 go_wp2
 go_ret
 exact HZ.out
end
end Go.Proofs.YtdkjoigpahafmaaGreatDoor
