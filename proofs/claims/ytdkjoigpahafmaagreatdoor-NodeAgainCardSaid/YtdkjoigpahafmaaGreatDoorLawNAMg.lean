/-
 The walk of NodeAgain.
-/
import Derived.Test.YtdkjoigpahafmaaGreatDoorBunAA
import Derived.Test.YtdkjoigpahafmaaGreatDoorBunAV
set_option linter.unusedSimpArgs false
set_option linter.unusedVariables false
namespace Go.Proofs.YtdkjoigpahafmaaGreatDoor
open Go Go.RowKit Go.Lib Go.Shelf
variable {w w0 w1 w2 : World} {X X1 X2 : Dw} {S S1 S2 : Sd} {Y Y1 Y2 : Yw} {V V1 V2 : Sv} {nb now grace : Nat} {ni : Int}
theorem add_far (a : Addr) (i j : Nat) (hj : j ≠ 0) : a.add (i + j) = ⟨(a.add i).block, (a.add i).off + j, none⟩ := by
 rw [← Go.Deep.add_add]
 generalize a.add i = b
 unfold Addr.add
 rw [if_neg hj]
theorem na_next {mf : Int} {mi : Nat} {an : Option (Int × Nat × List It)} {e : Ending} {c d : Nat} (h : NdW w0 w X S Y V nb 1 0 4) (hp : HPost X Y w S1 V1 nb 1 0 4 mf mi an e w1) (hf : Nd.Few 4194304 S1 V1 c d) : (∃ v, e = .returned v) ∧ ∃ X1 Y1, NdW w0 w1 X1 S1 Y1 V1 nb 1 0 4 := by
 obtain ⟨X1, Y1, _, _, h1, c1, f1, _, ha⟩ := hp
 refine ⟨?_, X1, Y1, h.turn h1 c1 f1⟩
 cases an with
 | none => exact ⟨_, ha⟩
 | some z =>
  obtain ⟨z1, z2, z3⟩ := z
  obtain ⟨g, B, n, c, he, _⟩ := ha
  exact ⟨_, he⟩
set_option maxRecDepth 100000 in
set_option maxHeartbeats 16000000 in
theorem nodeAgain_walk (A : Option Addr) (n c : Nat) (f : Nat → Oq) (m : Mq) (l : List It) (hnc : n ≤ c) (hcm : c ≤ maxLen) (hof : OpsIn w A n f) (hin : m.In l w) (he : Env w) :
  Calls Tryz.prog 6 #[.slice A n c, m.val] w fun e w' => e = .returned (.bool true) ∧ Below w.heap.size w w' := by
 obtain ⟨k, frm, to_, mi, no, mA, mn, mc⟩ := m
 unfold Mq.val
 simp only
 have hb1 := (Below.refl w.heap.size w).alloc (Nat.le_refl _) (.cells #[.int .i64 k, .int .i64 frm, .int .i64 to_, .int .u64 (mi : Int), .int .u64 (no : Int), .slice mA mn mc] 47)
 have hx1 := BoxO.new w #[.int .i64 k, .int .i64 frm, .int .i64 to_, .int .u64 (mi : Int), .int .u64 (no : Int), .slice mA mn mc] 47
 obtain ⟨W1, hW1⟩ : ∃ W1, W1 = w.alloc (.cells #[.int .i64 k, .int .i64 frm, .int .i64 to_, .int .u64 (mi : Int), .int .u64 (no : Int), .slice mA mn mc] 47) := ⟨_, rfl⟩
 rw [← hW1] at hb1 hx1
 obtain ⟨g0, hg0⟩ : ∃ g0, g0 = w.heap.size := ⟨_, rfl⟩
 rw [← hg0] at hx1
 have HW1 := Lib.hid (And.intro hW1 hg0)
 have HDN := Lib.hid (dnew_any 4194304 W1)
 have HE := Lib.hid (he.below hb1)
 have HIN := Lib.hid (hin.below hb1)
 have HX := Lib.hid (fun W' (hb : Below W1.heap.size W1 W') => hx1.below hb)
 have HOF : Hid (∀ i, i < n → ∀ W', Below W1.heap.size W1 W' → ∃ a, A = some a ∧ a.block < W1.heap.size ∧ W'.cell? (a.add (i * 8)) = some (.int .i64 (f i).k) ∧ (∀ (j : Nat) v, (f i).m.cells[j]? = some v → W'.cell? ⟨(a.add (i * 8)).block, (a.add (i * 8)).off + (1 + j), none⟩ = some v) ∧ (f i).m.In (f i).l W1) := Lib.hid (fun i hi W' hb => by
  obtain ⟨a, h1, h2, h3, h4, h5⟩ := hof i hi
  have hbb := later_ hb1 hb
  refine ⟨a, h1, Nat.lt_of_lt_of_le h2 hb1.size, ?_, fun j v hj => ?_, h5.below hb1⟩
  ·rw [hbb.cell (by rw [add_block]; exact h2)]
   exact h3
  ·rw [← add_far _ _ _ (by omega), hbb.cell (by rw [add_block]; exact h2)]
   exact h4 j v hj)
 have HB1 := Lib.hid hb1
 have HCM := Lib.hid (show c ≤ 9223372036854775807 by have := hcm; unfold maxLen at this; omega)
 have HMC := Lib.hid (show mn ≤ mc ∧ mc ≤ 9223372036854775807 by have h1 := hin.nc; have := hin.cm; unfold maxLen at this; simp only at h1 this; omega)
 clear hb1 hx1 hW1 hg0 hof hin he hcm
 go_enter Tryz.func6, Tryz.ntmps6
 go_wp2_with fail
 rw [← HW1.out.1, ← HW1.out.2]
 with_reducible refine HDN.out.mono ?_
 rintro e w1 ⟨X0, rfl, hdk, hb2, hfo⟩
 have hop := nborn_any (by omega) (by omega) HE.out hdk hb2 hfo 1 4 (by omega) (by omega)
 rw [show ((4 : Nat) : Int) = 4 from rfl] at hop
 have HOP := Lib.hid hop
 clear hop hdk hb2 hfo HDN
 go_wp2_with fail
 with_reducible refine HOP.out.mono ?_
 rintro e w2 ⟨nb, X, Y, S, rfl, hw, hns⟩
 have HI0 : Hid (NaI W1 w2 nb 0) := Lib.hid ⟨X, S, Y, Nd.v0, hw, hns, by simp [Nd.v0], rfl⟩
 have hx2 := HX.out _ hw.bel
 have y5 := hx2.cell 5
 simp only [gE0, gE1] at y5
 clear hw hns HOP hx2
 by_cases hmn : 60 < mn
 ·have e1 : ((60 : Int) < (mn : Int)) = True := eq_true (by omega)
  have HAW := Lib.hid (naw_any (HE.out.below HI0.out.bel))
  clear hmn
  go_wp2_with fail
  with_reducible refine HAW.out.mono ?_
  rintro e w3 ⟨rfl, hb3⟩
  have HZ := Lib.hid (HB1.out.trans ((later_ HI0.out.bel hb3).mono HB1.out.size))
  clear hb3 HAW y5
  go_wp2
  go_ret
  exact ⟨rfl, HZ.out⟩
 ·have e1 : ((60 : Int) < (mn : Int)) = False := eq_false (by omega)
  go_wp2_with fail
  have HMN := Lib.hid hmn
  clear y5 e1 hmn
  go_loopw [8] (fun i wr => ∃ q : Nat, q ≤ n ∧ q ≤ 30 ∧ i = .int .i64 (q : Int) ∧ Hid (NaI W1 wr nb q)) (fun i _ => 30 - (intOf i).toNat)
  case atStart => exact ⟨0, Nat.zero_le _, Nat.zero_le _, rfl, HI0⟩
  case round =>
   clear HI0
   obtain ⟨q, hq, hq30, rfl, HI⟩ := hrel
   by_cases hlt : q < n ∧ q < 30
   ·obtain ⟨hqn, hq2⟩ := hlt
    have e1 : ((q : Int) < (n : Int)) = True := eq_true (by omega)
    have e2 : ((q : Int) < (30 : Int)) = True := eq_true (by omega)
    obtain ⟨p, rfl, hpl, hc0, hcs, hoi⟩ := HOF.out q hqn wr HI.out.bel
    generalize f q = o at hc0 hcs hoi
    obtain ⟨ok, ⟨k2, frm2, to2, mi2, no2, A2, n2, c2⟩, l2⟩ := o
    simp only at hc0 hcs hoi
    have c0 := hcs 0 _ rfl
    have c1 := hcs 1 _ rfl
    have c2' := hcs 2 _ rfl
    have c3 := hcs 3 _ rfl
    have c4 := hcs 4 _ rfl
    have c5 := hcs 5 _ rfl
    have HOI := Lib.hid hoi
    have hwq : IntKind.i64.wrap (q : Int) = (q : Int) := IntWalk.i64_in _ (by omega)
    have hq1 : (q : Int) + 1 = ((q + 1 : Nat) : Int) := by omega
    obtain ⟨m1, hm1⟩ : ∃ m1, m1 = q + 1 := ⟨_, rfl⟩
    rw [← hm1] at hq1
    have hwm : IntKind.i64.wrap (m1 : Int) = (m1 : Int) := IntWalk.i64_in _ (by omega)
    have HM1 := Lib.hid hm1
    have HQ := Lib.hid (And.intro hqn hq2)
    clear hcs hoi hm1 hpl hq hq30
    by_cases hbig : 60 < n2
    ·have e3 : ((60 : Int) < (n2 : Int)) = True := eq_true (by omega)
     have HAW := Lib.hid (naw_any (HE.out.below HI.out.bel))
     clear hbig
     go_wp2_with fail
     with_reducible refine HAW.out.mono ?_
     rintro e w3 ⟨rfl, hb3⟩
     have HZ := Lib.hid (HB1.out.trans ((later_ HI.out.bel hb3).mono HB1.out.size))
     clear hb3 HAW hc0 c0 c1 c2' c3 c4 c5
     go_wp2
     go_ret
     exact ⟨rfl, HZ.out⟩
    ·have e3 : ((60 : Int) < (n2 : Int)) = False := eq_false (by omega)
     have HBG := Lib.hid hbig
     clear hbig
     by_cases hk0 : ok = 0
     ·subst hk0
      obtain ⟨X3, S3, Y3, V3, hd3, hf3⟩ := HI.out
      have hh := na_hand hd3 hf3 (by omega) (by omega) ⟨k2, frm2, to2, mi2, no2, A2, n2, c2⟩ l2 HOI.out (by have := HBG.out; simp only; omega)
      obtain ⟨S4, V4, a4, S5, g1, g2, _⟩ := hf3.msg (by omega) (by omega) (by omega) 1 ⟨k2, frm2, to2, mi2, no2, A2, n2, c2⟩ l2 (by rw [HOI.out.len]; have := HBG.out; simp only; omega)
      rw [g1] at hh
      unfold Mq.val at hh
      simp only at hh
      have HH := Lib.hid hh
      have HG := Lib.hid (And.intro hd3 g2)
      clear hh hd3 hf3 g1 g2
      go_wp2_with fail
      with_reducible refine HH.out.mono ?_
      rintro e w4 hp4
      obtain ⟨⟨v, rfl⟩, X6, Y6, h6⟩ := na_next HG.out.1 hp4 HG.out.2
      have HZ : Hid (NaI W1 w4 nb m1) := Lib.hid (by rw [HM1.out]; exact ⟨X6, S4, Y6, V4, h6, HG.out.2.mono (by omega) (by omega)⟩)
      clear hp4 h6 HH HG hc0 c0 c1 c2' c3 c4 c5
      go_wp2
      go_roundw
      case rel => exact ⟨m1, by have := HQ.out; have := HM1.out; omega, by have := HQ.out; have := HM1.out; omega, by rw [← hq1], HZ⟩
      case measure => have := HQ.out; simp [intOf]; omega
     ·have e4 : (ok == 0) = false := by simpa using hk0
      have HZ : Hid (NaI W1 wr nb m1) := Lib.hid (by rw [HM1.out]; obtain ⟨X6, S6, Y6, V6, h6, h7⟩ := HI.out; exact ⟨X6, S6, Y6, V6, h6, h7.mono (by omega) (by omega)⟩)
      clear hk0
      go_wp2
      go_roundw
      case rel => exact ⟨m1, by have := HQ.out; have := HM1.out; omega, by have := HQ.out; have := HM1.out; omega, by rw [← hq1], HZ⟩
      case measure => have := HQ.out; simp [intOf]; omega
   ·go_upto_region 6 with (fail)
    go_cut [43] (fun v wx => v = .bool false ∧ wx = wr)
    case first =>
     by_cases hkn : q < n
     ·have e1 : ((q : Int) < (n : Int)) = True := eq_true (by omega)
      have e2 : ((q : Int) < (30 : Int)) = False := eq_false (by omega)
      go_wp2_with fail
      go_meet
      exact ⟨rfl, rfl⟩
     ·have e1 : ((q : Int) < (n : Int)) = False := eq_false (by omega)
      go_wp2_with fail
      go_meet
      exact ⟨rfl, rfl⟩
    case rest =>
     obtain ⟨rfl, hwc⟩ := hcut
     obtain rfl := hwc.symm
     have hx3 := HX.out _ HI.out.bel
     have y0 := hx3.cell 0
     have y1 := hx3.cell 1
     have y2 := hx3.cell 2
     have y3 := hx3.cell 3
     have y4 := hx3.cell 4
     have y5 := hx3.cell 5
     simp only [gE0, gE1] at y0 y1 y2 y3 y4 y5
     obtain ⟨X3, S3, Y3, V3, hd3, hf3⟩ := HI.out
     have hh := na_hand hd3 hf3 (by omega) (by omega) ⟨k, frm, to_, mi, no, mA, mn, mc⟩ l HIN.out (by have := HMN.out; simp only; omega)
     obtain ⟨S4, V4, a4, S5, g1, g2, g3, g4⟩ := hf3.msg (by omega) (by omega) (by omega) 1 ⟨k, frm, to_, mi, no, mA, mn, mc⟩ l (by rw [HIN.out.len]; have := HMN.out; simp only; omega)
     have g2' := g2.mono (c' := 60202) (d' := 62472) (by omega) (by omega)
     have g4' := g4.mono (c' := 60202) (d' := 62472) (by omega) (by omega)
     rw [g1] at hh
     unfold Mq.val at hh
     simp only at hh
     have HH := Lib.hid hh
     have HG := Lib.hid (And.intro hd3 (And.intro g2' (And.intro g3 g4')))
     have HLA : Hid (∀ k no L, a4 = some (k, no, L) → L.length ≤ 1500) := Lib.hid (fun k no L e => by rw [e] at g1; exact Nat.le_trans (msg_len g1) hf3.len)
     clear hh hd3 hf3 g1 g2 g3 g4 g2' g4' hx3 hlt HI
     go_wp2_with fail
     with_reducible refine HH.out.mono ?_
     rintro e w4 hp4
     obtain ⟨v1, X4, Y4, rfl, h4, r1, _⟩ := na_res HG.out.1 hp4 HLA.out
     have HST := Lib.hid (nstate_any h4.at_ (by have := HG.out.2.1.len; omega))
     have H4 := Lib.hid h4
     have HR1 := Lib.hid r1
     clear y0 y1 y2 y3 y4 y5 hp4 h4 r1 HH
     go_wp2_with fail
     with_reducible refine HST.out.mono ?_
     rintro e w5 ⟨As, cs, rfl, ho5, hb5⟩
     have h5 := H4.out.below hb5
     have HME := Lib.hid (nmeta_any h5.at_ (by rw [HG.out.2.1.ns.files]; simp))
     have HO5 := Lib.hid (And.intro ho5 hb5)
     clear HST ho5 hb5 h5
     go_wp2_with fail
     with_reducible refine HME.out.mono ?_
     rintro e w6 ⟨rfl, hb6⟩
     obtain ⟨mt, hmt⟩ : ∃ mt, mt = St.meta_ V4 := ⟨_, rfl⟩
     rw [← hmt]
     unfold Mt.val
     have HMT := Lib.hid hmt
     have H57 : Hid (Below w5.heap.size w5 (w6.alloc (.cells #[.int .u64 (mt.floor : Int), .int .u64 (mt.cert : Int), .int .u64 (mt.at_ : Int), .int .u64 (mt.lease : Int)] 32))) := Lib.hid (later_ hb6 ((Below.refl w6.heap.size w6).alloc (Nat.le_refl _) (.cells #[.int .u64 (mt.floor : Int), .int .u64 (mt.cert : Int), .int .u64 (mt.at_ : Int), .int .u64 (mt.lease : Int)] 32)))
     have hb46 := later_ HO5.out.2 hb6
     have hb47 := later_ hb46 ((Below.refl w6.heap.size w6).alloc (Nat.le_refl _) (.cells #[.int .u64 (mt.floor : Int), .int .u64 (mt.cert : Int), .int .u64 (mt.at_ : Int), .int .u64 (mt.lease : Int)] 32))
     have hm7 := BoxO.new w6 #[.int .u64 (mt.floor : Int), .int .u64 (mt.cert : Int), .int .u64 (mt.at_ : Int), .int .u64 (mt.lease : Int)] 32
     have h7 := H4.out.below hb47
     have hh := na_hand h7 HG.out.2.1 (by omega) (by omega) ⟨k, frm, to_, mi, no, mA, mn, mc⟩ l HIN.out (by have := HMN.out; simp only; omega)
     rw [HG.out.2.2.1] at hh
     unfold Mq.val at hh
     simp only at hh
     have HH2 := Lib.hid hh
     have hx7 := HX.out _ h7.bel
     have y0 := hx7.cell 0
     have y1 := hx7.cell 1
     have y2 := hx7.cell 2
     have y3 := hx7.cell 3
     have y4 := hx7.cell 4
     have y5 := hx7.cell 5
     simp only [gE0, gE1] at y0 y1 y2 y3 y4 y5
     have H7 := Lib.hid (And.intro h7 (And.intro hb47 (And.intro hm7 hb46)))
     clear hmt hb6 hb46 hb47 hm7 h7 hh hx7 HME
     go_wp2_with fail
     with_reducible refine HH2.out.mono ?_
     rintro e w8 hp8
     obtain ⟨v2, X8, Y8, rfl, h8, r2, c8⟩ := na_res H7.out.1 hp8 HLA.out
     have hr1 : ResAt w8 [] frm mi v1 a4 := (HR1.out.below H7.out.2.1).chg c8
     have hr2 : ResAt w8 [] frm mi v2 a4 := r2.any
     have hlt4 : ∀ g, w4.heap.size ≤ g → g ∉ XY X4 Y4 := fun g hg hm => by have := H4.out.at_.at_.lt _ hm; omega
     have hrw : Row w8.heap.size w8 As Y4.A.n 5 (itc V4.st) := by
      have hr5 := Row.own HO5.out.1
      have hl5 := own_low HO5.out.1
      have hb57 : Below w5.heap.size w5 (w6.alloc (.cells #[.int .u64 (mt.floor : Int), .int .u64 (mt.cert : Int), .int .u64 (mt.at_ : Int), .int .u64 (mt.lease : Int)] 32)) := H57.out
      exact (row_chg c8 ((hr5.below hb57).up hb57.size) (Nat.le_refl _) fun j _ a ha => hlt4 _ (hl5 a ha)).up c8.size
     obtain ⟨gm, hgm⟩ : ∃ gm, gm = w6.heap.size := ⟨_, rfl⟩
     have hmb : BoxO w8 32 w6.heap.size [.int .u64 (mt.floor : Int), .int .u64 (mt.cert : Int), .int .u64 (mt.at_ : Int), .int .u64 (mt.lease : Int)] := BoxO.chg H7.out.2.2.1 c8 (hlt4 _ H7.out.2.2.2.size)
     have y0 := (HX.out _ h8.bel).cell 0
     simp only [gE0] at y0
     rw [← hgm] at hmb ⊢
     have H8 := Lib.hid (And.intro h8 (And.intro hrw hmb))
     have HSS := Lib.hid (sames_any hr1 hr2)
     have HLN : Hid (V4.st.length ≤ 1500 ∧ V4.M.v.files.length ≤ 10000) := Lib.hid ⟨HG.out.2.1.len, by rw [HG.out.2.1.ns.files]; simp⟩
     clear hp8 h8 r2 c8 hr1 hr2 hlt4 hrw hmb hgm HH2 y1 y2 y3 y4 y5 H57
     obtain ⟨b, hb⟩ : ∃ b, b = decide (k = 6 ∨ k = 4 ∨ k = 1) := ⟨_, rfl⟩
     have HBB := Lib.hid hb
     clear hb
     go_upto_region 15 with (fail)
     go_cut [90] (fun v wx => v = .bool b ∧ wx = w8)
     case first =>
      by_cases k6 : k = 6
      ·have e1 : (k == 6) = true := by simpa using k6
       have hb : b = true := by rw [HBB.out]; simp [k6]
       clear k6
       go_wp2_with fail
       go_meet
       exact ⟨by rw [hb], rfl⟩
      have e1 : (k == 6) = false := by simpa using k6
      by_cases k4 : k = 4
      ·have e2 : (k == 4) = true := by simpa using k4
       have hb : b = true := by rw [HBB.out]; simp [k4]
       clear k6 k4
       go_wp2_with fail
       go_meet
       exact ⟨by rw [hb], rfl⟩
      have e2 : (k == 4) = false := by simpa using k4
      by_cases k1 : k = 1
      ·have e3 : (k == 1) = true := by simpa using k1
       have hb : b = true := by rw [HBB.out]; simp [k1]
       clear k6 k4 k1
       go_wp2_with fail
       go_meet
       exact ⟨by rw [hb], rfl⟩
      have e3 : (k == 1) = false := by simpa using k1
      have hb : b = false := by rw [HBB.out]; simp [k6, k4, k1]
      clear k6 k4 k1
      go_wp2_with fail
      go_meet
      exact ⟨by rw [hb], rfl⟩
     case rest =>
      obtain ⟨rfl, hwc⟩ := hcut
      obtain rfl := hwc.symm
      clear HBB
      cases b with
      | true =>
       clear y0
       go_wp2_with fail
       with_reducible refine HSS.out.mono ?_
       rintro e w9 ⟨rfl, hb9⟩
       have H9 := Lib.hid (And.intro (H8.out.1.below hb9) (And.intro ((H8.out.2.1.below hb9).up hb9.size) (H8.out.2.2.below hb9)))
       clear hb9 HSS
       have HK : Hid (∀ W', Below w9.heap.size w9 W' → NdAt W' X8 S5 Y8 V4 nb 1 0 4 ∧ Row W'.heap.size W' As Y4.A.n 5 (itc V4.st) ∧ BoxO W' 32 gm [.int .u64 (mt.floor : Int), .int .u64 (mt.cert : Int), .int .u64 (mt.at_ : Int), .int .u64 (mt.lease : Int)] ∧ Env W') := Lib.hid (fun W' hb => ⟨H9.out.1.at_.below hb, (H9.out.2.1.below hb).up hb.size, H9.out.2.2.below hb, HE.out.below (later_ H9.out.1.bel hb)⟩)
       have HST := Lib.hid (fun W' (hb : Below w9.heap.size w9 W') => nstate_any (HK.out W' hb).1 (by have := HLN.out.1; omega))
       have hme2 := fun W' (hb : Below w9.heap.size w9 W') => nmeta_any (HK.out W' hb).1 HLN.out.2
       rw [← HMT.out] at hme2
       unfold Mt.val at hme2
       have HME2 := Lib.hid hme2
       have HAW := Lib.hid (fun W' (hb : Below w9.heap.size w9 W') => naw_any (HK.out W' hb).2.2.2)
       have hqe0 := fun W' => mt_eql mt.floor mt.floor mt.cert mt.at_ mt.lease W'
       rw [decide_eq_true rfl] at hqe0
       have HQE := Lib.hid hqe0
       clear hme2 hqe0
       go_wp2_with fail
       refine wp_region_held_drew (S := fun w' => Below w9.heap.size w9 w') rfl (below_drew (Below.refl _ _)) (fun hSw => ?_)
       refine wpT (i := 0) (v := ?vnaa0) ?hnaa0 hSw ?knaa0
       case hnaa0 => (intro w hSw; (obtain ⟨x, y, z, _⟩ := HK.out _ hSw; have m0 := z.cell 0; have m1 := z.cell 1; have m2 := z.cell 2; have m3 := z.cell 3; simp only [gE0, gE1] at m0 m1 m2 m3; have hqe := HQE.out; clear x y z); go_simp; try (with_reducible rfl))
       go_simp
       refine wpT (i := 2) (v := ?vnaa2) ?hnaa2 hSw ?knaa2
       case hnaa2 => (intro w hSw; (obtain ⟨x, y, z, _⟩ := HK.out _ hSw; have m0 := z.cell 0; have m1 := z.cell 1; have m2 := z.cell 2; have m3 := z.cell 3; simp only [gE0, gE1] at m0 m1 m2 m3; have hqe := HQE.out; clear x y z); go_simp; try (with_reducible rfl))
       go_simp
       refine wpAnyH_ready (rs := [1]) (by kernel_rfl) (by simp) ?_
       refine AllReadyH.cons rfl (fun K hK => ?_) AllReadyH.nil
       go_simp
       with_reducible refine (HST.out _ hSw).mono ?_
       rintro e wa ⟨A6, c6, rfl, ho6, hba⟩; have HEQ := Lib.hid (requal_any A6 Y8.A.n c6 V4.st As Y4.A.n cs V4.st wa (by have h1 := (Row.own ho6).itlen; have := HLN.out.1; omega) (by have h1 := (HK.out _ (later_ hSw hba)).2.1.itlen; have := HLN.out.1; omega) (Row.own ho6) (HK.out _ (later_ hSw hba)).2.1); (rw [decide_eq_true rfl] at HEQ); clear ho6
       go_simp
       refine hK.out _ _ (later_ hSw hba) (fun hSn => ?_)
       clear hK K hSw
       have hSw := hSn
       clear hSn
       go_simp
       refine wpAnyH_ready (rs := [3]) (by kernel_rfl) (by simp) ?_
       refine AllReadyH.cons rfl (fun K hK => ?_) AllReadyH.nil
       go_simp
       with_reducible refine HEQ.out.mono ?_
       rintro e wb ⟨rfl, hbb⟩
       go_simp
       refine hK.out _ _ (later_ hSw hbb) (fun hSn => ?_)
       clear hK K hSw
       have hSw := hSn
       clear hSn
       go_simp
       refine wpT (i := 4) (v := ?vnaa4) ?hnaa4 hSw ?knaa4
       case hnaa4 => (intro w hSw; (obtain ⟨x, y, z, _⟩ := HK.out _ hSw; have m0 := z.cell 0; have m1 := z.cell 1; have m2 := z.cell 2; have m3 := z.cell 3; simp only [gE0, gE1] at m0 m1 m2 m3; have hqe := HQE.out; clear x y z); go_simp; try (with_reducible rfl))
       go_simp
       refine wpT (i := 5) (v := ?vnaa5) ?hnaa5 hSw ?knaa5
       case hnaa5 => (intro w hSw; (obtain ⟨x, y, z, _⟩ := HK.out _ hSw; have m0 := z.cell 0; have m1 := z.cell 1; have m2 := z.cell 2; have m3 := z.cell 3; simp only [gE0, gE1] at m0 m1 m2 m3; have hqe := HQE.out; clear x y z); go_simp; try (with_reducible rfl))
       go_simp
       refine wpT (i := 7) (v := ?vnaa7) ?hnaa7 hSw ?knaa7
       case hnaa7 => (intro w hSw; (obtain ⟨x, y, z, _⟩ := HK.out _ hSw; have m0 := z.cell 0; have m1 := z.cell 1; have m2 := z.cell 2; have m3 := z.cell 3; simp only [gE0, gE1] at m0 m1 m2 m3; have hqe := HQE.out; clear x y z); go_simp; try (with_reducible rfl))
       go_simp
       refine wpAnyH_ready (rs := [6]) (by kernel_rfl) (by simp) ?_
       refine AllReadyH.cons rfl (fun K hK => ?_) AllReadyH.nil
       go_simp
       with_reducible refine (HME2.out _ hSw).mono ?_
       rintro e wc ⟨rfl, hbc⟩
       go_simp
       refine hK.out _ _ (later_ hSw hbc) (fun hSn => ?_)
       clear hK K hSw
       have hSw := hSn
       clear hSn
       go_simp
       refine wpT (i := 8) (v := ?vnaa8) ?hnaa8 hSw ?knaa8
       case hnaa8 => (intro w hSw; (obtain ⟨x, y, z, _⟩ := HK.out _ hSw; have m0 := z.cell 0; have m1 := z.cell 1; have m2 := z.cell 2; have m3 := z.cell 3; simp only [gE0, gE1] at m0 m1 m2 m3; have hqe := HQE.out; clear x y z); go_simp; try (with_reducible rfl))
       go_simp
       refine wpT (i := 9) (v := ?vnaa9) ?hnaa9 hSw ?knaa9
       case hnaa9 => (intro w hSw; (obtain ⟨x, y, z, _⟩ := HK.out _ hSw; have m0 := z.cell 0; have m1 := z.cell 1; have m2 := z.cell 2; have m3 := z.cell 3; simp only [gE0, gE1] at m0 m1 m2 m3; have hqe := HQE.out; clear x y z); go_simp; try (with_reducible rfl))
       go_simp
       refine wpT (i := 10) (v := ?vnaa10) ?hnaa10 hSw ?knaa10
       case hnaa10 => (intro w hSw; (obtain ⟨x, y, z, _⟩ := HK.out _ hSw; have m0 := z.cell 0; have m1 := z.cell 1; have m2 := z.cell 2; have m3 := z.cell 3; simp only [gE0, gE1] at m0 m1 m2 m3; have hqe := HQE.out; clear x y z); go_simp; try (with_reducible rfl))
       go_simp
       refine wpAnyH_ready (rs := [11]) (by kernel_rfl) (by simp) ?_
       refine AllReadyH.cons rfl (fun K hK => ?_) AllReadyH.nil
       go_simp
       with_reducible refine (HAW.out _ hSw).mono ?_
       rintro e wd ⟨rfl, hbd⟩
       go_simp
       refine hK.out _ _ (later_ hSw hbd) (fun hSn => ?_)
       clear hK K hSw
       have hSw := hSn
       clear hSn
       go_simp
       refine wpT (i := 12) (v := ?vnaa12) ?hnaa12 hSw ?knaa12
       case hnaa12 => (intro w hSw; (obtain ⟨x, y, z, _⟩ := HK.out _ hSw; have m0 := z.cell 0; have m1 := z.cell 1; have m2 := z.cell 2; have m3 := z.cell 3; simp only [gE0, gE1] at m0 m1 m2 m3; have hqe := HQE.out; clear x y z); go_simp; try (with_reducible rfl))
       go_simp
       refine wpT (i := 13) (v := ?vnaa13) ?hnaa13 hSw ?knaa13
       case hnaa13 => (intro w hSw; (obtain ⟨x, y, z, _⟩ := HK.out _ hSw; have m0 := z.cell 0; have m1 := z.cell 1; have m2 := z.cell 2; have m3 := z.cell 3; simp only [gE0, gE1] at m0 m1 m2 m3; have hqe := HQE.out; clear x y z); go_simp; try (with_reducible rfl))
       go_simp
       refine wpAnyH_done (by kernel_rfl) ?_ _
       have HZ := Lib.hid (HB1.out.trans ((later_ H9.out.1.bel (later_ (later_ (later_ (later_ (below_drew (Below.refl _ _)) hba) hbb) hbc) hbd)).mono HB1.out.size))
       clear hSw hba hbb hbc hbd HEQ HST HME2 HAW HQE
       go_wp2
       go_ret
       exact ⟨rfl, HZ.out⟩
      | false =>
       clear y0 HSS
       obtain ⟨w9, hw9⟩ : ∃ w9, w9 = w8 := ⟨_, rfl⟩
       rw [← hw9] at H8 ⊢
       have H9 := H8
       clear H8 hw9
       have HK : Hid (∀ W', Below w9.heap.size w9 W' → NdAt W' X8 S5 Y8 V4 nb 1 0 4 ∧ Row W'.heap.size W' As Y4.A.n 5 (itc V4.st) ∧ BoxO W' 32 gm [.int .u64 (mt.floor : Int), .int .u64 (mt.cert : Int), .int .u64 (mt.at_ : Int), .int .u64 (mt.lease : Int)] ∧ Env W') := Lib.hid (fun W' hb => ⟨H9.out.1.at_.below hb, (H9.out.2.1.below hb).up hb.size, H9.out.2.2.below hb, HE.out.below (later_ H9.out.1.bel hb)⟩)
       have HST := Lib.hid (fun W' (hb : Below w9.heap.size w9 W') => nstate_any (HK.out W' hb).1 (by have := HLN.out.1; omega))
       have hme2 := fun W' (hb : Below w9.heap.size w9 W') => nmeta_any (HK.out W' hb).1 HLN.out.2
       rw [← HMT.out] at hme2
       unfold Mt.val at hme2
       have HME2 := Lib.hid hme2
       have HAW := Lib.hid (fun W' (hb : Below w9.heap.size w9 W') => naw_any (HK.out W' hb).2.2.2)
       have hqe0 := fun W' => mt_eql mt.floor mt.floor mt.cert mt.at_ mt.lease W'
       rw [decide_eq_true rfl] at hqe0
       have HQE := Lib.hid hqe0
       clear hme2 hqe0
       go_wp2_with fail
       refine wp_region_held_drew (S := fun w' => Below w9.heap.size w9 w') rfl (below_drew (Below.refl _ _)) (fun hSw => ?_)
       refine wpT (i := 0) (v := ?vnab0) ?hnab0 hSw ?knab0
       case hnab0 => (intro w hSw; (obtain ⟨x, y, z, _⟩ := HK.out _ hSw; have m0 := z.cell 0; have m1 := z.cell 1; have m2 := z.cell 2; have m3 := z.cell 3; simp only [gE0, gE1] at m0 m1 m2 m3; have hqe := HQE.out; clear x y z); go_simp; try (with_reducible rfl))
       go_simp
       refine wpT (i := 2) (v := ?vnab2) ?hnab2 hSw ?knab2
       case hnab2 => (intro w hSw; (obtain ⟨x, y, z, _⟩ := HK.out _ hSw; have m0 := z.cell 0; have m1 := z.cell 1; have m2 := z.cell 2; have m3 := z.cell 3; simp only [gE0, gE1] at m0 m1 m2 m3; have hqe := HQE.out; clear x y z); go_simp; try (with_reducible rfl))
       go_simp
       refine wpAnyH_ready (rs := [1]) (by kernel_rfl) (by simp) ?_
       refine AllReadyH.cons rfl (fun K hK => ?_) AllReadyH.nil
       go_simp
       with_reducible refine (HST.out _ hSw).mono ?_
       rintro e wa ⟨A6, c6, rfl, ho6, hba⟩; have HEQ := Lib.hid (requal_any A6 Y8.A.n c6 V4.st As Y4.A.n cs V4.st wa (by have h1 := (Row.own ho6).itlen; have := HLN.out.1; omega) (by have h1 := (HK.out _ (later_ hSw hba)).2.1.itlen; have := HLN.out.1; omega) (Row.own ho6) (HK.out _ (later_ hSw hba)).2.1); (rw [decide_eq_true rfl] at HEQ); clear ho6
       go_simp
       refine hK.out _ _ (later_ hSw hba) (fun hSn => ?_)
       clear hK K hSw
       have hSw := hSn
       clear hSn
       go_simp
       refine wpAnyH_ready (rs := [3]) (by kernel_rfl) (by simp) ?_
       refine AllReadyH.cons rfl (fun K hK => ?_) AllReadyH.nil
       go_simp
       with_reducible refine HEQ.out.mono ?_
       rintro e wb ⟨rfl, hbb⟩
       go_simp
       refine hK.out _ _ (later_ hSw hbb) (fun hSn => ?_)
       clear hK K hSw
       have hSw := hSn
       clear hSn
       go_simp
       refine wpT (i := 4) (v := ?vnab4) ?hnab4 hSw ?knab4
       case hnab4 => (intro w hSw; (obtain ⟨x, y, z, _⟩ := HK.out _ hSw; have m0 := z.cell 0; have m1 := z.cell 1; have m2 := z.cell 2; have m3 := z.cell 3; simp only [gE0, gE1] at m0 m1 m2 m3; have hqe := HQE.out; clear x y z); go_simp; try (with_reducible rfl))
       go_simp
       refine wpT (i := 5) (v := ?vnab5) ?hnab5 hSw ?knab5
       case hnab5 => (intro w hSw; (obtain ⟨x, y, z, _⟩ := HK.out _ hSw; have m0 := z.cell 0; have m1 := z.cell 1; have m2 := z.cell 2; have m3 := z.cell 3; simp only [gE0, gE1] at m0 m1 m2 m3; have hqe := HQE.out; clear x y z); go_simp; try (with_reducible rfl))
       go_simp
       refine wpT (i := 7) (v := ?vnab7) ?hnab7 hSw ?knab7
       case hnab7 => (intro w hSw; (obtain ⟨x, y, z, _⟩ := HK.out _ hSw; have m0 := z.cell 0; have m1 := z.cell 1; have m2 := z.cell 2; have m3 := z.cell 3; simp only [gE0, gE1] at m0 m1 m2 m3; have hqe := HQE.out; clear x y z); go_simp; try (with_reducible rfl))
       go_simp
       refine wpAnyH_ready (rs := [6]) (by kernel_rfl) (by simp) ?_
       refine AllReadyH.cons rfl (fun K hK => ?_) AllReadyH.nil
       go_simp
       with_reducible refine (HME2.out _ hSw).mono ?_
       rintro e wc ⟨rfl, hbc⟩
       go_simp
       refine hK.out _ _ (later_ hSw hbc) (fun hSn => ?_)
       clear hK K hSw
       have hSw := hSn
       clear hSn
       go_simp
       refine wpT (i := 8) (v := ?vnab8) ?hnab8 hSw ?knab8
       case hnab8 => (intro w hSw; (obtain ⟨x, y, z, _⟩ := HK.out _ hSw; have m0 := z.cell 0; have m1 := z.cell 1; have m2 := z.cell 2; have m3 := z.cell 3; simp only [gE0, gE1] at m0 m1 m2 m3; have hqe := HQE.out; clear x y z); go_simp; try (with_reducible rfl))
       go_simp
       refine wpT (i := 9) (v := ?vnab9) ?hnab9 hSw ?knab9
       case hnab9 => (intro w hSw; (obtain ⟨x, y, z, _⟩ := HK.out _ hSw; have m0 := z.cell 0; have m1 := z.cell 1; have m2 := z.cell 2; have m3 := z.cell 3; simp only [gE0, gE1] at m0 m1 m2 m3; have hqe := HQE.out; clear x y z); go_simp; try (with_reducible rfl))
       go_simp
       refine wpT (i := 10) (v := ?vnab10) ?hnab10 hSw ?knab10
       case hnab10 => (intro w hSw; (obtain ⟨x, y, z, _⟩ := HK.out _ hSw; have m0 := z.cell 0; have m1 := z.cell 1; have m2 := z.cell 2; have m3 := z.cell 3; simp only [gE0, gE1] at m0 m1 m2 m3; have hqe := HQE.out; clear x y z); go_simp; try (with_reducible rfl))
       go_simp
       refine wpAnyH_ready (rs := [11]) (by kernel_rfl) (by simp) ?_
       refine AllReadyH.cons rfl (fun K hK => ?_) AllReadyH.nil
       go_simp
       with_reducible refine (HAW.out _ hSw).mono ?_
       rintro e wd ⟨rfl, hbd⟩
       go_simp
       refine hK.out _ _ (later_ hSw hbd) (fun hSn => ?_)
       clear hK K hSw
       have hSw := hSn
       clear hSn
       go_simp
       refine wpT (i := 12) (v := ?vnab12) ?hnab12 hSw ?knab12
       case hnab12 => (intro w hSw; (obtain ⟨x, y, z, _⟩ := HK.out _ hSw; have m0 := z.cell 0; have m1 := z.cell 1; have m2 := z.cell 2; have m3 := z.cell 3; simp only [gE0, gE1] at m0 m1 m2 m3; have hqe := HQE.out; clear x y z); go_simp; try (with_reducible rfl))
       go_simp
       refine wpT (i := 13) (v := ?vnab13) ?hnab13 hSw ?knab13
       case hnab13 => (intro w hSw; (obtain ⟨x, y, z, _⟩ := HK.out _ hSw; have m0 := z.cell 0; have m1 := z.cell 1; have m2 := z.cell 2; have m3 := z.cell 3; simp only [gE0, gE1] at m0 m1 m2 m3; have hqe := HQE.out; clear x y z); go_simp; try (with_reducible rfl))
       go_simp
       refine wpAnyH_done (by kernel_rfl) ?_ _
       have HZ := Lib.hid (HB1.out.trans ((later_ H9.out.1.bel (later_ (later_ (later_ (later_ (below_drew (Below.refl _ _)) hba) hbb) hbc) hbd)).mono HB1.out.size))
       clear hSw hba hbb hbc hbd HEQ HST HME2 HAW HQE
       go_wp2
       go_ret
       exact ⟨rfl, HZ.out⟩
end Go.Proofs.YtdkjoigpahafmaaGreatDoor
