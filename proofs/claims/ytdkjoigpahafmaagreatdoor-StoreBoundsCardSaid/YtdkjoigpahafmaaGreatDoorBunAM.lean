/- Texts LogA, IConcat, ChunkA, ChunkB in one. No conditions. -/
import Derived.Test.YtdkjoigpahafmaaGreatDoorBunAA
import Derived.Test.YtdkjoigpahafmaaGreatDoorBunAK
import Derived.Test.YtdkjoigpahafmaaGreatDoorBunAD
import Derived.Test.YtdkjoigpahafmaaGreatDoorBunAE
import Derived.Test.YtdkjoigpahafmaaGreatDoorBunAJ
import Derived.Test.YtdkjoigpahafmaaGreatDoorBunAL
import Derived.Test.YtdkjoigpahafmaaGreatDoorBunAH
import Derived.RangeFuncBox
import Derived.RangeFuncNested
import Derived.RangeFuncBound
import Derived.RangeFuncCalls
import Derived.RangeFuncLeaves
import Derived.Shelf.Abstract
import Derived.Shelf.RegionOpen
import Derived.WalkKit
import Derived.OwnWalkIn
import Derived.TacticsInMore
import Derived.LoopNIn
import Derived.LoopIn
import Derived.Maps.AppendAt
import Derived.Maps.OwnIn

set_option linter.unusedSimpArgs false
set_option linter.unusedVariables false
set_option maxRecDepth 100000
set_option maxHeartbeats 16000000
namespace Go.Proofs.YtdkjoigpahafmaaGreatDoor
section
open Go Go.RowKit Go.Lib Go.Shelf
theorem batch_any (L : Option Addr) (m d : Nat) (l : List It) (w : World) (h0 : 0 < m) (hm : m ≤ 1000) (hq : Row w.heap.size w L m 5 (itc l)) (hk : ∀ x ∈ l, x.ok = true ∧ x.fit) :
  Calls Tryz.prog 83 #[.slice L m d] w fun e w' => ∃ A' M c', e = .returned (.tuple #[.slice A' M c', .int .i64 0]) ∧
   w'.ownsRow w.heap.size 5 1 (.slice A' M c') M (bts (Lg.batch l)) ∧ M ≤ c' ∧ c' ≤ maxLen ∧ Below w.heap.size w w' := by
 have hmn := hq.itlen
 have hib := ibytes_any none 0 0 [] L m d l w (by omega) (by omega) Row.nil_ hq hk
 rw [List.nil_append] at hib
 have hbl := It.bytes_len l
 have hm0 : ((m : Int) == 0) = false := by simp; omega
 have HIB := Lib.hid hib
 clear hib hk
 go_enter Tryz.func83, Tryz.ntmps83
 go_wp2_with fail
 refine HIB.out.mono ?_
 rintro e w1 ⟨A1, M1, c1, rfl, ho1, hc1, hm1, hb1⟩
 have hML : M1 = (It.bytes l).length := by
  have := ho1.1
  rw [bts_length] at this
  omega
 have hM6 : M1 ≤ 60000 := by omega
 have hM6i : ((60000 : Int) < (M1 : Int)) = False := eq_false (by omega)
 have hfp := fput_any none 0 0 [] 1 A1 M1 c1 (It.bytes l) w1 (by omega) (by omega) (by omega) Row.nil_ (by omega) (by omega) hM6 hc1 hm1 (Row.own ho1)
 rw [List.nil_append] at hfp
 have HFP := Lib.hid hfp
 clear hfp ho1 HIB hML
 go_wp2_with fail
 refine HFP.out.mono ?_
 rintro e w2 ⟨A2, M2, c2, rfl, ho2, hc2, hm2, hb2⟩
 have hob := own_base ho2 hb1.size
 have hbz := later_ hb1 hb2
 have HF := Lib.hid (And.intro hob (And.intro hc2 (And.intro hm2 hbz)))
 clear ho2 hob hbz HFP
 go_wp2
 go_ret2
 exact ⟨A2, M2, c2, rfl, HF.out⟩
abbrev LgAt (w : World) (g xd : Nat) (nm : List UInt8) (sz ct : Nat) : Prop := BoxO w 147 g [.pointer (some ⟨xd, 0, none⟩), .string (str nm), .int .i64 (sz : Int), .int .i64 (ct : Int), .bool false]
theorem UpdM.drew {X : Dw} {S : Sd} {w w' : World} (h : UpdM X w.drew w' S) : UpdM X w w' S := by
 obtain ⟨X2, a, b, c, d⟩ := h
 exact ⟨X2, a, b, ((Chg.refl X.foot w).drew).trans c (fun g hg => .inl hg), d⟩
theorem LgAt.upd {X : Dw} {S : Sd} {w w' : World} {g xd : Nat} {nm : List UInt8} {sz ct : Nat} (h : LgAt w g xd nm sz ct) (hu : UpdM X w w' S) (hg : g ∉ X.foot) : LgAt w' g xd nm sz ct := by
 obtain ⟨X2, a, b, c, d⟩ := hu
 exact h.chg c hg
theorem str_data (l : List UInt8) : (str l).data.toList = l := by simp [str]
theorem lcount_any (g xd : Nat) (nm : List UInt8) (sz ct : Nat) (w : World) (h : LgAt w g xd nm sz ct) :
  Calls Tryz.prog 36 #[.pointer (some ⟨g, 0, none⟩)] w fun e w' => e = .returned (.int .i64 (ct : Int)) ∧ w' = w := by
 have HL := Lib.hid (aiload_any g 3 (ct : Int) w (h.cell 3))
 clear h
 go_enter Tryz.func36, Tryz.ntmps36
 go_wp2_with fail
 refine HL.out.mono ?_
 rintro e w1 ⟨rfl, rfl⟩
 go_wp2
 go_ret
 exact ⟨rfl, rfl⟩
theorem lsync_any (X : Dw) (S : Sd) (g : Nat) (nm : List UInt8) (sz ct : Nat) (w : World) (hnm : nm.length ≤ 1000) (h : Dm w X S) (hg : LgAt w g X.d nm sz ct) (hgX : g ∉ X.foot) :
  Calls Tryz.prog 128 #[.pointer (some ⟨g, 0, none⟩)] w fun e w' => e = .returned (.int .i64 ((S.sync nm).2 : Int)) ∧ UpdM X w w' (S.sync nm).1 := by
 have c0 := hg.cell 0
 have c1 := hg.cell 1
 have c4 := hg.cell 4
 simp only [gE0, gE1] at c0 c1 c4
 have hs := (Acc.start (F := []) (h.below (w' := w.drew) (below_drew (Below.refl _ _)))).sync (str nm) (by rw [str_size]; unfold maxLen; omega)
 rw [str_data] at hs
 have hs2 : Calls Tryz.prog 173 #[.pointer (some ⟨X.d, 0, none⟩), .string (str nm)] w.drew fun e w' => e = .returned (.int .i64 ((S.sync nm).2 : Int)) ∧ UpdM X w w' (S.sync nm).1 := hs.mono fun e w' ⟨h1, X2, h2⟩ => ⟨h1, UpdM.drew h2.updM⟩
 generalize (S.sync nm).2 = er at *
 have HS := Lib.hid hs2
 have HG := Lib.hid hg
 clear hs hs2 hg h
 go_enter Tryz.func128, Tryz.ntmps128
 go_wp2_with fail
 refine wp_region_held_drew (S := fun w' => LgAt w' g X.d nm sz ct) rfl HG.out.drew (fun hSw => ?_)
 refine wpT (i := 0) (v := ?vsy0) ?hsy0 hSw ?ksy0
 case hsy0 => (intro w hSw; (have c0 := hSw.cell 0; have c1 := hSw.cell 1; simp only [gE0, gE1] at c0 c1); go_simp; try (with_reducible rfl))
 go_simp
 refine wpT (i := 1) (v := ?vsy1) ?hsy1 hSw ?ksy1
 case hsy1 => (intro w hSw; (have c0 := hSw.cell 0; have c1 := hSw.cell 1; simp only [gE0, gE1] at c0 c1); go_simp; try (with_reducible rfl))
 go_simp
 refine wpT (i := 2) (v := ?vsy2) ?hsy2 hSw ?ksy2
 case hsy2 => (intro w hSw; (have c0 := hSw.cell 0; have c1 := hSw.cell 1; simp only [gE0, gE1] at c0 c1); go_simp; try (with_reducible rfl))
 go_simp
 refine wpT (i := 3) (v := ?vsy3) ?hsy3 hSw ?ksy3
 case hsy3 => (intro w hSw; (have c0 := hSw.cell 0; have c1 := hSw.cell 1; simp only [gE0, gE1] at c0 c1); go_simp; try (with_reducible rfl))
 go_simp
 refine wpT (i := 4) (v := ?vsy4) ?hsy4 hSw ?ksy4
 case hsy4 => (intro w hSw; (have c0 := hSw.cell 0; have c1 := hSw.cell 1; simp only [gE0, gE1] at c0 c1); go_simp; try (with_reducible rfl))
 go_simp
 refine wpT (i := 5) (v := ?vsy5) ?hsy5 hSw ?ksy5
 case hsy5 => (intro w hSw; (have c0 := hSw.cell 0; have c1 := hSw.cell 1; simp only [gE0, gE1] at c0 c1); go_simp; try (with_reducible rfl))
 go_simp
 refine wpT (i := 6) (v := ?vsy6) ?hsy6 hSw ?ksy6
 case hsy6 => (intro w hSw; (have c0 := hSw.cell 0; have c1 := hSw.cell 1; simp only [gE0, gE1] at c0 c1); go_simp; try (with_reducible rfl))
 go_simp
 refine wpT (i := 7) (v := ?vsy7) ?hsy7 hSw ?ksy7
 case hsy7 => (intro w hSw; (have c0 := hSw.cell 0; have c1 := hSw.cell 1; simp only [gE0, gE1] at c0 c1); go_simp; try (with_reducible rfl))
 go_simp
 refine wpAnyH_ready (rs := [8]) (by kernel_rfl) (by simp) ?_
 refine AllReadyH.cons rfl (fun K hK => ?_) AllReadyH.nil
 go_simp
 with_reducible refine HS.out.mono ?_
 rintro e w3 ⟨rfl, hu⟩
 go_simp
 refine hK.out _ _ (HG.out.upd hu hgX) (fun hSn => ?_)
 clear hK K hSw
 have hSw := hSn
 clear hSn
 go_simp
 refine wpT (i := 9) (v := ?vsy9) ?hsy9 hSw ?ksy9
 case hsy9 => (intro w hSw; (have c0 := hSw.cell 0; have c1 := hSw.cell 1; simp only [gE0, gE1] at c0 c1); go_simp; try (with_reducible rfl))
 go_simp
 refine wpAnyH_done (by kernel_rfl) ?_ _
 clear hSw
 go_wp2
 go_ret
 exact ⟨rfl, hu⟩
def LnPost (X : Dw) (w : World) (nm : List UInt8) (R : Sd × Nat) (e : Ending) (w' : World) : Prop := ∃ X', X'.d = X.d ∧ Dm w' X' R.1 ∧ Chg X.foot w w' ∧ (∀ g ∈ X'.foot, g ∈ X.foot ∨ w.heap.size ≤ g) ∧
 ((R.2 ≠ 0 ∧ e = .returned (.tuple #[.pointer none, .int .i64 (R.2 : Int)])) ∨ (R.2 = 0 ∧ ∃ g, e = .returned (.tuple #[.pointer (some ⟨g, 0, none⟩), .int .i64 0]) ∧ LgAt w' g X.d nm 0 0 ∧ w.heap.size ≤ g ∧ g ∉ X'.foot))
theorem lnew_any (X : Dw) (S : Sd) (nm : List UInt8) (w : World) (hnm : nm.length ≤ 1000) (hld : S.load ≤ 1099511627776) (h : Dm w X S) :
  Calls Tryz.prog 127 #[.pointer (some ⟨X.d, 0, none⟩), .string (str nm)] w (LnPost X w nm (S.create nm)) := by
 have hs := (Acc.start (F := []) h).create (str nm) (by rw [str_size]; unfold maxLen; omega) hld
 rw [str_data] at hs
 obtain ⟨R, hR⟩ : ∃ R, R = S.create nm := ⟨_, rfl⟩
 rw [← hR] at hs ⊢
 obtain ⟨S1, er⟩ := R
 simp only at hs
 have HS := Lib.hid hs
 clear hs h hR
 go_enter Tryz.func127, Tryz.ntmps127
 go_wp2_with fail
 refine HS.out.mono ?_
 rintro e w1 ⟨rfl, X2, h2⟩
 have H2 := Lib.hid h2
 clear h2 HS
 by_cases he : er = 0
 ·subst he
  go_wp2
  go_ret2
  have hc := H2.out.c
  have hlt := H2.out.dm.dk.lt
  have hsz := hc.size
  have hba := (Below.refl w1.heap.size w1).alloc (Nat.le_refl _) (.cells #[.pointer (some ⟨X.d, 0, none⟩), .string (str nm), .int .i64 0, .int .i64 0, .bool false] 147)
  refine ⟨X2, H2.out.e, H2.out.dm.below hba, by simpa using hc.alloc (.cells #[.pointer (some ⟨X.d, 0, none⟩), .string (str nm), .int .i64 0, .int .i64 0, .bool false] 147), H2.out.f, .inr ⟨rfl, w1.heap.size, rfl, BoxO.new _ _ _, hsz, fun hm => ?_⟩⟩
  have := hlt _ hm
  omega
 ·have he3 : ((er : Int) == 0) = false := by simp; omega
  go_wp2
  go_ret2
  exact ⟨X2, H2.out.e, H2.out.dm, by simpa using H2.out.c, H2.out.f, .inl ⟨he, rfl⟩⟩
def LpPost (X : Dw) (g : Nat) (w : World) (nm : List UInt8) (sz ct len : Nat) (R : Sd × Nat) (e : Ending) (w' : World) : Prop := e = .returned (.int .i64 (R.2 : Int)) ∧ ∃ X', X'.d = X.d ∧ Dm w' X' R.1 ∧ Chg (g :: X.foot) w w' ∧ (∀ g ∈ X'.foot, g ∈ X.foot ∨ w.heap.size ≤ g) ∧
 (if R.2 = 0 then LgAt w' g X.d nm (sz + len) (ct + 1) else LgAt w' g X.d nm sz ct)
theorem lput_any (X : Dw) (S : Sd) (g : Nat) (nm : List UInt8) (sz ct : Nat) (L : Option Addr) (m d : Nat) (l : List It) (w : World) (hnm : nm.length ≤ 1000) (h : Dm w X S) (hg : LgAt w g X.d nm sz ct) (hgX : g ∉ X.foot) (hgN : NG ≤ g)
  (hsz : sz ≤ 1000000000000) (hct : ct ≤ 1000000000) (h0 : 0 < m) (hm : m ≤ 1000) (hq : Row w.heap.size w L m 5 (itc l)) (hk : ∀ x ∈ l, x.ok = true ∧ x.fit) :
  Calls Tryz.prog 30 #[.pointer (some ⟨g, 0, none⟩), .slice L m d] w (LpPost X g w nm sz ct (Lg.batch l).length (S.append nm (Lg.batch l))) := by
 have c4 := hg.cell 4
 simp only [gE0, gE1] at c4
 have hb := batch_any L m d l w h0 hm hq hk
 have hbl := Lg.batch_len l
 have hmn := hq.itlen
 have hgl := hg.lt
 have HB := Lib.hid hb
 have HD := Lib.hid h
 have HG := Lib.hid hg
 obtain ⟨R, hR⟩ : ∃ R, R = S.append nm (Lg.batch l) := ⟨_, rfl⟩
 obtain ⟨len, hlen⟩ : ∃ len, len = (Lg.batch l).length := ⟨_, rfl⟩
 rw [← hR, ← hlen]
 obtain ⟨S1, er⟩ := R
 have HR := Lib.hid hR
 have HLEN := Lib.hid hlen
 rw [← hlen] at hbl
 clear hb h hg hk hq hR hlen
 go_enter Tryz.func30, Tryz.ntmps30
 go_wp2_with fail
 refine HB.out.mono ?_
 rintro e w1 ⟨A1, M1, c1, rfl, ho1, hc1, hm1, hb1⟩
 have hML : M1 = len := by
  have := ho1.1
  rw [bts_length, ← HLEN.out] at this
  omega
 obtain ⟨A2, c2, hv, hqc, hqm, hlow⟩ := own_form ho1
 injection hv with e1 e2 e3
 subst e1 e3
 have hd1 := HD.out.below hb1
 have hg1 := HG.out.below hb1
 have hA : ∀ a, A1 = some a → a.block ∉ X.foot := fun a ha hm => by
  have h2 := (hlow a ha).1
  have h3 := HD.out.dk.lt _ hm
  omega
 have hap := (Acc.start (F := []) (hd1.below (w' := w1.drew) (below_drew (Below.refl _ _)))).append (str nm) (by rw [str_size]; unfold maxLen; omega) A1 M1 c1 (Lg.batch l) (by omega) (Row.own ho1) hA
 rw [str_data] at hap
 rw [← HR.out] at hap
 have hap2 : Calls Tryz.prog 84 #[.pointer (some ⟨X.d, 0, none⟩), .string (str nm), .slice A1 M1 c1] w1.drew fun e w' => e = .returned (.int .i64 (er : Int)) ∧ UpdM X w1 w' S1 := hap.mono fun e w' ⟨h1, X2, h2⟩ => ⟨h1, UpdM.drew h2.updM⟩
 subst hML
 have HG1 := Lib.hid hg1
 have HAP := Lib.hid hap2
 have HB1 := Lib.hid hb1
 clear hap hap2 hg1 hd1 ho1 hb1 hA hlow hqc hqm HB
 go_wp2_with fail
 refine wp_region_held_drew (S := fun w' => LgAt w' g X.d nm sz ct) rfl HG1.out.drew (fun hSw => ?_)
 refine wpT (i := 0) (v := ?vpu0) ?hpu0 hSw ?kpu0
 case hpu0 => (intro w hSw; (have c0 := hSw.cell 0; have c1 := hSw.cell 1; simp only [gE0, gE1] at c0 c1); go_simp; try (with_reducible rfl))
 go_simp
 refine wpT (i := 1) (v := ?vpu1) ?hpu1 hSw ?kpu1
 case hpu1 => (intro w hSw; (have c0 := hSw.cell 0; have c1 := hSw.cell 1; simp only [gE0, gE1] at c0 c1); go_simp; try (with_reducible rfl))
 go_simp
 refine wpT (i := 2) (v := ?vpu2) ?hpu2 hSw ?kpu2
 case hpu2 => (intro w hSw; (have c0 := hSw.cell 0; have c1 := hSw.cell 1; simp only [gE0, gE1] at c0 c1); go_simp; try (with_reducible rfl))
 go_simp
 refine wpT (i := 3) (v := ?vpu3) ?hpu3 hSw ?kpu3
 case hpu3 => (intro w hSw; (have c0 := hSw.cell 0; have c1 := hSw.cell 1; simp only [gE0, gE1] at c0 c1); go_simp; try (with_reducible rfl))
 go_simp
 refine wpT (i := 4) (v := ?vpu4) ?hpu4 hSw ?kpu4
 case hpu4 => (intro w hSw; (have c0 := hSw.cell 0; have c1 := hSw.cell 1; simp only [gE0, gE1] at c0 c1); go_simp; try (with_reducible rfl))
 go_simp
 refine wpT (i := 5) (v := ?vpu5) ?hpu5 hSw ?kpu5
 case hpu5 => (intro w hSw; (have c0 := hSw.cell 0; have c1 := hSw.cell 1; simp only [gE0, gE1] at c0 c1); go_simp; try (with_reducible rfl))
 go_simp
 refine wpT (i := 6) (v := ?vpu6) ?hpu6 hSw ?kpu6
 case hpu6 => (intro w hSw; (have c0 := hSw.cell 0; have c1 := hSw.cell 1; simp only [gE0, gE1] at c0 c1); go_simp; try (with_reducible rfl))
 go_simp
 refine wpT (i := 7) (v := ?vpu7) ?hpu7 hSw ?kpu7
 case hpu7 => (intro w hSw; (have c0 := hSw.cell 0; have c1 := hSw.cell 1; simp only [gE0, gE1] at c0 c1); go_simp; try (with_reducible rfl))
 go_simp
 refine wpT (i := 8) (v := ?vpu8) ?hpu8 hSw ?kpu8
 case hpu8 => (intro w hSw; (have c0 := hSw.cell 0; have c1 := hSw.cell 1; simp only [gE0, gE1] at c0 c1); go_simp; try (with_reducible rfl))
 go_simp
 refine wpAnyH_ready (rs := [9]) (by kernel_rfl) (by simp) ?_
 refine AllReadyH.cons rfl (fun K hK => ?_) AllReadyH.nil
 go_simp
 with_reducible refine HAP.out.mono ?_
 rintro e w3 ⟨rfl, hu⟩
 go_simp
 refine hK.out _ _ (LgAt.upd HG1.out hu hgX) (fun hSn => ?_)
 clear hK K hSw
 have hSw := hSn
 clear hSn
 go_simp
 refine wpT (i := 10) (v := ?vpu10) ?hpu10 hSw ?kpu10
 case hpu10 => (intro w hSw; (have c0 := hSw.cell 0; have c1 := hSw.cell 1; simp only [gE0, gE1] at c0 c1); go_simp; try (with_reducible rfl))
 go_simp
 refine wpAnyH_done (by kernel_rfl) ?_ _
 have hg3 := hSw
 clear hSw HAP
 have hcs : ∃ X', X'.d = X.d ∧ Dm w3 X' S1 ∧ Chg X.foot w w3 ∧ ∀ g ∈ X'.foot, g ∈ X.foot ∨ w.heap.size ≤ g := by
  obtain ⟨X2, q1, q2, q3, q4⟩ := hu
  refine ⟨X2, q1, q2, (Chg.of_below HB1.out X.foot).trans q3 (fun g hg => .inl hg), fun g hg => ?_⟩
  rcases q4 g hg with h1 | h1
  ·exact .inl h1
  ·exact .inr (Nat.le_trans HB1.out.size h1)
 have HC := Lib.hid hcs
 clear hcs hu
 by_cases he : er = 0
 ·subst he
  have d2 := hg3.cell 2
  have d3 := hg3.cell 3
  have f2 := hg3.free 2
  have f3 := hg3.free 3
  simp only [gE0, gE1] at d2 d3
  have hw2 : IntKind.i64.wrap ((sz : Int) + (M1 : Int)) = ((sz + M1 : Nat) : Int) := by rw [IntWalk.i64_in _ (by omega)]; omega
  have hg4 := hg3.store 2 (.int .i64 ((sz + M1 : Nat) : Int))
  have d34 := hg4.cell 3
  simp only [List.set_cons_zero, List.set_cons_succ, gE0, gE1] at d34 hg4
  have had := aiadd_any g 3 (ct : Int) (w3.setCell ⟨g, 2, none⟩ (.int .i64 ((sz + M1 : Nat) : Int))) (by omega) (by omega) d34 (hg4.free 3)
  have hg5 := hg4.store 3 (.int .i64 ((ct : Int) + 1))
  simp only [List.set_cons_zero, List.set_cons_succ] at hg5
  have hcg : Chg [g] w3 ((w3.setCell ⟨g, 2, none⟩ (.int .i64 ((sz + M1 : Nat) : Int))).setCell ⟨g, 3, none⟩ (.int .i64 ((ct : Int) + 1))) := ((Chg.refl _ w3).setCell _ (.inl (by simp))).setCell _ (.inl (by simp))
  have hfin : LpPost X g w nm sz ct M1 (S1, 0) (.returned (.int .i64 0)) ((w3.setCell ⟨g, 2, none⟩ (.int .i64 ((sz + M1 : Nat) : Int))).setCell ⟨g, 3, none⟩ (.int .i64 ((ct : Int) + 1))) := by
   obtain ⟨X2, q1, q2, q3, q4⟩ := HC.out
   have hgX2 : g ∉ X2.foot := fun hm => by
    rcases q4 g hm with h1 | h1
    ·exact hgX h1
    ·omega
   refine ⟨rfl, X2, q1, q2.chg hcg (fun x hx => by rw [List.mem_singleton.1 hx]; exact ⟨hgX2, hgN⟩), (q3.mono (fun x hx => .inl (List.mem_cons_of_mem _ hx))).trans hcg (fun x hx => .inl (by rw [List.mem_singleton.1 hx]; exact List.mem_cons_self)), q4, ?_⟩
   rw [if_pos rfl]
   exact hg5
  have HAD := Lib.hid had
  have HFIN := Lib.hid hfin
  clear had hfin hcg hg5 hg4 hg3 d34 HC
  go_wp2_with fail
  refine HAD.out.mono ?_
  rintro e w4 ⟨rfl, rfl⟩
  go_wp2
  go_ret
  exact HFIN.out
 ·have he3 : ((er : Int) == 0) = false := by simp; omega
  have hfin : LpPost X g w nm sz ct M1 (S1, er) (.returned (.int .i64 (er : Int))) w3 := by
   obtain ⟨X2, q1, q2, q3, q4⟩ := HC.out
   refine ⟨rfl, X2, q1, q2, q3.mono (fun x hx => .inl (List.mem_cons_of_mem _ hx)), q4, ?_⟩
   rw [if_neg he]
   exact hg3
  have HFIN := Lib.hid hfin
  clear hfin hg3 HC
  go_wp2
  go_ret
  exact HFIN.out
end
end Go.Proofs.YtdkjoigpahafmaaGreatDoor
namespace Go.Proofs.YtdkjoigpahafmaaGreatDoor
open Go Go.RowKit Go.Shelf
end Go.Proofs.YtdkjoigpahafmaaGreatDoor
namespace Go.Proofs
open Go Go.RowKit Go.Shelf
def Tryz.growItem_ren : Go.Shelf.Ren := ⟨fun | 4 => 143 | n => n, fun | 22 => 24 | 25 => 27 | 3 => 3 | 4 => 4 | 9 => 9 | 20 => 20 | 0 => 0 | n => n, fun | n => n⟩
theorem Tryz.growItem : Go.Proofs.Lays8.n4 Tryz.prog Tryz.growItem_ren := {
 mixed := by kernel_rfl
 f4 := ⟨Tryz.f143.name, by decide, Tryz.func143.trans (congrArg some (by kernel_rfl))⟩
 t0 := Tryz.underlying0
 a0 := Tryz.isAgg0
 z0 := Tryz.sizeOf0
 v0 := Tryz.zeroValue0
 t3 := Tryz.underlying3
 a3 := Tryz.isAgg3
 z3 := Tryz.sizeOf3
 v3 := Tryz.zeroValue3
 t4 := Tryz.underlying4
 a4 := Tryz.isAgg4
 z4 := Tryz.sizeOf4
 v4 := Tryz.zeroValue4
 t9 := Tryz.underlying9
 a9 := Tryz.isAgg9
 z9 := Tryz.sizeOf9
 v9 := Tryz.zeroValue9
 t20 := Tryz.underlying20
 a20 := Tryz.isAgg20
 z20 := Tryz.sizeOf20
 v20 := Tryz.zeroValue20
 t22 := Tryz.underlying24
 a22 := Tryz.isAgg24
 z22 := Tryz.sizeOf24
 v22 := Tryz.zeroValue24 }
end Go.Proofs
namespace Go.Proofs.YtdkjoigpahafmaaGreatDoor
open Go Go.RowKit Go.Shelf
def IRows (B : Nat) (w : World) (P : Option Addr) (n : Nat) (ls : List (List It)) : Prop :=
 ∃ vs, Row B w P n 1 vs ∧ ls.length = n ∧ ∀ i (h : i < ls.length), ∃ A k c, vs[i]? = some (.slice A k c) ∧ k ≤ c ∧ c ≤ maxLen ∧ Row B w A k 5 (itc ls[i])
theorem IRows.at_ {B : Nat} {w : World} {P : Option Addr} {n : Nat} {ls : List (List It)} (h : IRows B w P n ls) {i : Nat} (hi : i < n) :
  ∃ a A k c, ∃ hl : i < ls.length, P = some a ∧ a.block < B ∧ w.cell? (a.add i) = some (.slice A k c) ∧ k ≤ c ∧ c ≤ maxLen ∧ Row B w A k 5 (itc ls[i]) := by
 obtain ⟨vs, hr, hl, hf⟩ := h
 obtain ⟨a, v, e, b, hv, hc⟩ := hr.at1 hi
 obtain ⟨A, k, c, h1, h2, h3, h4⟩ := hf i (by omega)
 rw [h1] at hv
 injection hv with hv
 exact ⟨a, A, k, c, by omega, e, b, by rw [hc, ← hv], h2, h3, h4⟩
theorem IRows.below {B : Nat} {w w' : World} {P : Option Addr} {n : Nat} {ls : List (List It)} (h : IRows B w P n ls) (hb : Below B w w') : IRows B w' P n ls := by
 obtain ⟨vs, hr, hl, hf⟩ := h
 exact ⟨vs, hr.below hb, hl, fun i hi => let ⟨A, k, c, h1, h2, h3, h4⟩ := hf i hi; ⟨A, k, c, h1, h2, h3, h4.below hb⟩⟩
theorem IRows.up {B B' : Nat} {w : World} {P : Option Addr} {n : Nat} {ls : List (List It)} (h : IRows B w P n ls) (hb : B ≤ B') : IRows B' w P n ls := by
 obtain ⟨vs, hr, hl, hf⟩ := h
 exact ⟨vs, hr.up hb, hl, fun i hi => let ⟨A, k, c, h1, h2, h3, h4⟩ := hf i hi; ⟨A, k, c, h1, h2, h3, h4.up hb⟩⟩
theorem IRows.len {B : Nat} {w : World} {P : Option Addr} {n : Nat} {ls : List (List It)} (h : IRows B w P n ls) : ls.length = n := by
 obtain ⟨_, _, hl, _⟩ := h
 exact hl
theorem iflat_take {ls : List (List It)} {k : Nat} (hl : k < ls.length) : (ls.take (k + 1)).flatten = (ls.take k).flatten ++ ls[k] := by
 have h := (List.take_append_getElem hl).symm
 rw [h, List.flatten_append]
 simp
theorem iflat_le {ls : List (List It)} (k : Nat) : (ls.take k).flatten.length ≤ ls.flatten.length := by
 conv => rhs; rw [← List.take_append_drop k ls, List.flatten_append, List.length_append]
 omega
theorem igrow_any (n : Nat) (hn : n ≤ 1000000) (w : World) :
  Calls Tryz.prog 143 #[.slice none 0 0, .int .i64 (n : Int)] w fun e w' => ∃ A c, e = .returned (.slice A 0 c) ∧ w'.ownsRow w.heap.size 27 5 (.slice A 0 c) 0 [] ∧ Below w.heap.size w w' := by
 obtain ⟨i0, hi0, hz0, hz1, hz2⟩ := info_parts info_item
 rcases Nat.eq_zero_or_pos n with h0 | h0
 ·subst h0
  have h := Any8.slices_Grow_room Tryz.growItem none 0 0 0 w (Nat.le_refl _) (by omega) (by omega) (by omega)
  refine Calls.mono h ?_
  rintro e w' ⟨rfl, rfl⟩
  exact ⟨none, 0, rfl, World.ownsRow_nil _ _ _ _, Below.refl _ _⟩
 ·have h := Any8.slices_Grow_grow Tryz.growItem i0 (.agg #[.int .i64 0, .int .i64 0, .int .u64 0, .int .u64 0, .int .i64 0]) hi0 hz0 (by omega) none 0 0 n [] w (Nat.le_refl _) (by omega) (by rw [hz2]; omega) (by omega) (by simp) (fun _ => rfl) (fun a h => by cases h)
  refine Calls.mono h ?_
  rintro e w' ⟨rfl, rfl⟩
  have hg := grownCap_ge w (0 + n) 0 27
  have hg2 := grownCap_le_maxLen w (0 + n) 0 27 (by unfold maxLen; omega)
  refine ⟨_, _, rfl, ⟨by simp, .inr ⟨w.heap.size, _, _, rfl, Nat.le_refl _, heap_alloc_new w.drew _, Nat.zero_le _, hg2, ?_, by simp⟩⟩, ((Below.refl w.heap.size w).drew).alloc (Nat.le_refl _) _⟩
  change _ = grownCap w (0 + n) 0 27 * 5
  have hc : (Value.agg #[.int .i64 0, .int .i64 0, .int .u64 0, .int .u64 0, .int .i64 0]).cells.size = 5 := rfl
  simp only [Array.size_append, Builtin.zeroCells, Array.size_map, Array.size_range, hc]
  change 0 + (0 + n - 0) * 5 + (grownCap w (0 + n) 0 27 - (0 + n)) * 5 = _
  omega
theorem iconcat_any (P : Option Addr) (n c : Nat) (ls : List (List It)) (w : World) (hn : n ≤ 1000000) (hbig : ls.flatten.length ≤ 1000000) (hr : IRows w.heap.size w P n ls) :
  Calls Tryz.prog 72 #[.slice P n c] w fun e w' => ∃ A' c', e = .returned (.slice A' ls.flatten.length c') ∧
   w'.ownsRow w.heap.size 27 5 (.slice A' ls.flatten.length c') ls.flatten.length (itc ls.flatten) ∧ ls.flatten.length ≤ c' ∧ c' ≤ maxLen ∧ Below w.heap.size w w' := by
 obtain ⟨i0, hi0, hz0, hz1, hz2⟩ := info_parts info_item
 have hlen : ls.length = n := by obtain ⟨_, _, h, _⟩ := hr; exact h
 obtain ⟨F, hF⟩ : ∃ F, F = ls.flatten.length := ⟨_, rfl⟩
 have HF := Lib.hid hF
 have HB := Lib.hid hbig
 rw [← hF] at hbig ⊢
 clear hF
 go_enter Tryz.func72, Tryz.ntmps72
 go_wp2
 go_loop [3, 11] (fun x i => ∃ k : Nat, k ≤ n ∧ i = .int .i64 (k : Int) ∧ x = .int .i64 (((ls.take k).flatten.length : Nat) : Int)) (fun _ i => n - (intOf i).toNat)
 case atStart => exact ⟨0, Nat.zero_le _, rfl, rfl⟩
 case round =>
  obtain ⟨k, hk, rfl, rfl⟩ := hrel
  by_cases hlt : k < n
  ·obtain ⟨a, A, k', c', hl, rfl, _, hc, hkc, hcm, hr2⟩ := hr.at_ hlt
   have ht := iflat_take hl
   have hb1 := iflat_le (ls := ls) (k + 1)
   have e1 : (ls.take (k + 1)).flatten.length = (ls.take k).flatten.length + k' := by rw [ht, List.length_append, hr2.itlen]
   have hb2 : (ls.take k).flatten.length + k' ≤ 1000000 := by
    have h : ls.flatten.length ≤ 1000000 := HB
    omega
   have E1 := Lib.hid e1
   clear ht hb1 e1
   generalize (ls.take k).flatten.length = L at *
   have hge : ((L : Int) + (k' : Int) < 0) = False := by simp; omega
   go_wp2
   go_round
   case rel => exact ⟨k + 1, by omega, by go_num, by have e1 : (ls.take (k + 1)).flatten.length = L + k' := E1; rw [e1]; go_num⟩
   case measure => simp [intOf]; omega
  ·obtain rfl : k = n := by omega
   have e1 : (ls.take k).flatten.length = F := by
    have h : F = ls.flatten.length := HF
    rw [List.take_of_length_le (by omega), h]
   rw [e1]
   clear e1
   go_wp2_with fail
   refine (igrow_any F hbig w).mono ?_
   rintro e w1 ⟨A1, c1, rfl, ho1, hb1⟩
   go_wp2
   go_loopw [6, 27] (fun o i wr => ∃ (j : Nat) (A' : Option Addr) (M c' : Nat), j ≤ k ∧ o = .slice A' M c' ∧ i = .int .i64 (j : Int) ∧ wr.ownsRow w.heap.size 27 5 (.slice A' M c') M (itc (ls.take j).flatten) ∧ Below w.heap.size w wr) (fun _ i _ => k - (intOf i).toNat)
   case atStart => exact ⟨0, A1, 0, c1, Nat.zero_le _, rfl, rfl, by simpa [itc] using ho1, hb1⟩
   case round =>
    obtain ⟨j, A', M, c', hj, rfl, rfl, hown, hb⟩ := hrel
    have hML : M = (ls.take j).flatten.length := by
     have h1 := hown.1
     rw [itc_length] at h1
     omega
    by_cases hjk : j < k
    ·obtain ⟨a, A, k', c2, hl, rfl, hab, hc, hkc, hcm, hr2⟩ := (hr.below hb).at_ hjk
     have ht := iflat_take hl
     have hb1 := iflat_le (ls := ls) (j + 1)
     have hb2 : M + k' ≤ 1000000 := by
      have h : ls.flatten.length ≤ 1000000 := HB
      have e1 : (ls.take (j + 1)).flatten.length = (ls.take j).flatten.length + k' := by rw [ht, List.length_append, hr2.itlen]
      omega
     have hnew : itc (ls.take j).flatten ++ itc ls[j] = itc (ls.take (j + 1)).flatten := by rw [ht, itc_append]
     have h1c := itc_one ls[j]
     generalize itc ls[j] = X at *
     generalize hY : itc (ls.take (j + 1)).flatten = Y at *
     generalize itc (ls.take j).flatten = Z at *
     have HN := Lib.hid hnew
     have HY := Lib.hid hY
     clear hY hML ht hb1 hnew
     go_wp2_with (at_builtin; refine stop_in ?_)
     refine stop_out (wpList_app rfl (.tmp 31) (.tmp 32) _ rfl w.heap.size 27 i0 _ 5 40 Tryz.underlying24 hi0 hz0 hz1 hz2 rfl (by omega) w hb hb.size _ M Z rfl hown w.heap.size A k' c2 X rfl hr2 h1c (M + k') Y rfl HN (by unfold maxLen; omega) (by omega) ?_)
     intro A3 c3 w3 hown3 hb3 _ hc3 hm3
     go_wp2
     go_roundw
     case rel => exact ⟨j + 1, A3, M + k', c3, by omega, rfl, by go_num, by have hY : itc (ls.take (j + 1)).flatten = Y := HY; rw [hY]; exact hown3, hb3⟩
     case measure => simp [intOf]; omega
    ·obtain rfl : j = k := by omega
     have e1 : ls.take j = ls := List.take_of_length_le (by omega)
     rw [e1] at hown hML
     have h : F = ls.flatten.length := HF
     have hMF : M = F := by omega
     subst hMF
     obtain ⟨A4, c4, e4, h5, h6, _⟩ := own_form hown
     injection e4 with e5 e6 e7
     subst e5
     subst e7
     clear hML h e1
     go_wp2
     go_ret
     exact ⟨A', c', rfl, hown, h5, h6, hb⟩
end Go.Proofs.YtdkjoigpahafmaaGreatDoor
namespace Go.Proofs.YtdkjoigpahafmaaGreatDoor
section
open Go Go.RowKit Go.Lib Go.Shelf
attribute [local go_sem] Oper.semAt_some
abbrev Ck (m len : Nat) : Type := { x : Nat // x * m < len }
def Ck.len {m len : Nat} (x : Ck m len) : Nat := min m (len - x.1 * m)
def Ck.val (p : Addr) {m len : Nat} (x : Ck m len) : Value := .slice (some (p.add (x.1 * m * 5))) x.len x.len
def Ck.of (l : List It) {m len : Nat} (x : Ck m len) : List It := (l.drop (x.1 * m)).take m
theorem cut_next {m len k f : Nat} {L : List It} {pre : List (Ck m len)} (hm : 1 ≤ m) (hL : L.length = len) (hk : k * m < len) (h1 : (L.drop (k * m)).length ≤ f) (h2 : pre.map (Ck.of L) ++ Tb.cut m f (L.drop (k * m)) = Tb.cut m len L) :
  ∃ f', (L.drop ((k + 1) * m)).length ≤ f' ∧ (pre ++ [(⟨k, hk⟩ : Ck m len)]).map (Ck.of L) ++ Tb.cut m f' (L.drop ((k + 1) * m)) = Tb.cut m len L := by
 have hkm : (k + 1) * m = k * m + m := Nat.succ_mul k m
 rw [List.length_drop] at h1
 obtain ⟨f', rfl⟩ : ∃ f', f = f' + 1 := ⟨f - 1, by omega⟩
 refine ⟨f', by rw [List.length_drop, hkm]; omega, ?_⟩
 have hne : L.drop (k * m) ≠ [] := fun e => by
  have := congrArg List.length e
  rw [List.length_drop] at this
  simp at this
  omega
 rw [← h2, Tb.cut, if_neg hne, List.drop_drop, hkm, List.map_append, List.append_assoc]
 rfl
theorem chunk1_in (F : Fence) (n : Nat) (h7 : F.fn 176) (hro : F.round = none) (hn : 1 ≤ n) (l Bs Bn : Nat) (Kp : World → World → Prop) (hKc : ∀ W W', Kp W W' → W'.cell? ⟨Bs, 0, none⟩ = W.cell? ⟨Bs, 0, none⟩ ∧ W'.cell? ⟨Bn, 0, none⟩ = W.cell? ⟨Bn, 0, none⟩) (p : Addr) (len cap m : Nat) (L : List It) (hL : L.length = len) (hm : 1 ≤ m) (hm2 : m ≤ 1000) (hlen : len ≤ 100000) (hcap : len ≤ cap) (J Jx : List (Ck m len) → World → Prop)
  (hJd : ∀ pre W, J pre W → J pre W.drew) (hY : ∀ pre x W, J pre W → pre.length < len → YieldAt F (n - 1) Tryz.prog l #[Ck.val p x] W fun e W' =>
   (e = .returned (.bool true) ∧ J (pre ++ [x]) W' ∧ Kp W W') ∨ (e = .returned (.bool false) ∧ Jx (pre ++ [x]) W'))
  (W : World) (hBs : W.cell? ⟨Bs, 0, none⟩ = some (.slice (some p) len cap)) (hBn : W.cell? ⟨Bn, 0, none⟩ = some (.int .i64 (m : Int))) (h0 : J [] W) :
  CallsIn F n Tryz.prog 176 #[.func (.yield l) #[] #[], .pointer (some ⟨Bs, 0, none⟩), .pointer (some ⟨Bn, 0, none⟩)] W fun e W' => (∃ v, e = .returned v) ∧
   ((∃ ys, ys.map (Ck.of L) = Tb.cut m len L ∧ J ys W') ∨ (∃ pre, Jx pre W')) := by
 refine callsIn_of_wp Tryz.func176 rfl h7 ?_ hro
 simp only [Tryz.ntmps176, List.size_toArray, List.length_cons, List.length_nil, Nat.reduceAdd, Nat.reduceSub, Array.replicate_succ, Array.replicate_zero, List.push_toArray, List.append_toArray, List.nil_append, List.cons_append]
 gi_wp2
 gi_loopw [4] (fun i wr => ∃ (k f : Nat) (pre : List (Ck m len)), i = .int .i64 ((k * m : Nat) : Int) ∧ k * m ≤ len + m ∧ Hid (pre.length = k ∧ (L.drop (k * m)).length ≤ f ∧ pre.map (Ck.of L) ++ Tb.cut m f (L.drop (k * m)) = Tb.cut m len L) ∧ J pre wr ∧ wr.cell? ⟨Bs, 0, none⟩ = some (.slice (some p) len cap) ∧ wr.cell? ⟨Bn, 0, none⟩ = some (.int .i64 (m : Int)))
  (fun i _ => len - (intOf i).toNat)
 case atStart => exact ⟨0, len, [], by simp, by simp, Lib.hid ⟨rfl, by simp [hL], by simp⟩, h0, hBs, hBn⟩
 case round =>
  obtain ⟨k, f, pre, rfl, hkb, HK, hJs, hs1, hs2⟩ := hrel
  obtain ⟨q, hq⟩ : ∃ q, q = k * m := ⟨_, rfl⟩
  rw [← hq] at HK hkb ⊢
  by_cases hlt : q < len
  ·have hlti : (q : Int) < (len : Int) := by omega
   have hkl : k * m < len := by rw [← hq]; exact hlt
   obtain ⟨e, he⟩ : ∃ e, e = min m (len - q) := ⟨_, rfl⟩
   have he0 : 0 < e := by omega
   have he0i : (0 : Int) < (e : Int) := by omega
   have hel : q + e ≤ len := by omega
   have heli : (q : Int) + (e : Int) ≤ (len : Int) := by omega
   have hqe : (q : Int) ≤ (q : Int) + (e : Int) := by omega
   have hle : (q : Int) + (e : Int) ≤ (cap : Int) := by omega
   have hwe : IntKind.i64.wrap ((q : Int) + (e : Int)) = ((q + e : Nat) : Int) := by rw [IntWalk.i64_in _ (by omega)]; omega
   have hmin : min (m : Int) ((len - q : Nat) : Int) = (e : Int) := by omega
   obtain ⟨fn, tmps, assign, body, hy, hR⟩ := hY pre ⟨k, hkl⟩ wr.drew (hJd _ _ hJs) (by rw [HK.out.1]; have := Nat.le_mul_of_pos_right k hm; omega)
   have hv : Ck.val p (⟨k, hkl⟩ : Ck m len) = .slice (some (p.add (q * 5))) e e := by
    unfold Ck.val Ck.len
    simp only
    rw [← hq, ← he]
   rw [hv] at hy
   have hcne : (cap = q) = False := eq_false (by omega)
   have hcne2 : (e = 0) = False := eq_false (by omega)
   have HST := Lib.hid (show ∃ f', (L.drop ((k + 1) * m)).length ≤ f' ∧ (pre ++ [(⟨k, hkl⟩ : Ck m len)]).map (Ck.of L) ++ Tb.cut m f' (L.drop ((k + 1) * m)) = Tb.cut m len L from cut_next hm hL hkl (by rw [← hq]; exact HK.out.2.1) (by rw [← hq]; exact HK.out.2.2))
   have HPL := Lib.hid HK.out.1
   have hkm : (k + 1) * m = q + m := by rw [hq]; exact Nat.succ_mul k m
   have hwqm : IntKind.i64.wrap ((q : Int) + (m : Int)) = ((q + m : Nat) : Int) := by rw [IntWalk.i64_in _ (by omega)]; omega
   have HKM := Lib.hid hkm
   have HR := Lib.hid hR
   have HE := Lib.hid (And.intro he hq)
   clear hR hv he hq hY hkm HK
   gi_wp2
   gi_region
   all_goals gi_wp2
   all_goals
    refine HR.out.mono ?_
    rintro e' W3 (⟨rfl, hJ3, hk3⟩ | ⟨rfl, hJx3⟩)
    ·have hs4 : W3.cell? ⟨Bs, 0, none⟩ = some (.slice (some p) len cap) := (hKc _ _ hk3).1.trans hs1
     have hs3 : W3.cell? ⟨Bn, 0, none⟩ = some (.int .i64 (m : Int)) := (hKc _ _ hk3).2.trans hs2
     clear hk3
     gi_wp2
     go_roundw
     case rel =>
      obtain ⟨f', z1, z2⟩ := HST.out
      exact ⟨k + 1, f', pre ++ [⟨k, hkl⟩], by rw [HKM.out]; go_num, by rw [HKM.out]; omega, Lib.hid ⟨by rw [List.length_append, HPL.out]; rfl, z1, z2⟩, hJ3, hs4, hs3⟩
     case measure => simp [intOf]; omega
    ·gi_wp2
     refine bodyPost_ret (results_none rfl _ _ _) rfl ?_
     exact ⟨⟨_, rfl⟩, .inr ⟨_, hJx3⟩⟩
  ·have hlti : ((q : Int) < (len : Int)) = False := eq_false (by omega)
   have hfin : pre.map (Ck.of L) = Tb.cut m len L := by
    have h1 := HK.out.2.2
    rw [List.drop_eq_nil_of_le (by omega)] at h1
    rw [← h1]
    cases f <;> simp [Tb.cut]
   have HFIN := Lib.hid hfin
   clear hfin HK hq
   gi_wp2
   go_end0
   exact ⟨⟨_, rfl⟩, .inl ⟨_, HFIN.out, hJs⟩⟩
theorem chunk1_nil_in (F : Fence) (n : Nat) (h7 : F.fn 176) (hro : F.round = none) (l Bs Bn cap : Nat) (A : Option Addr) (J : World → Prop) (W : World) (hBs : W.cell? ⟨Bs, 0, none⟩ = some (.slice A 0 cap)) (h0 : J W) :
  CallsIn F n Tryz.prog 176 #[.func (.yield l) #[] #[], .pointer (some ⟨Bs, 0, none⟩), .pointer (some ⟨Bn, 0, none⟩)] W fun e W' => (∃ v, e = .returned v) ∧ J W' := by
 refine callsIn_of_wp Tryz.func176 rfl h7 ?_ hro
 simp only [Tryz.ntmps176, List.size_toArray, List.length_cons, List.length_nil, Nat.reduceAdd, Nat.reduceSub, Array.replicate_succ, Array.replicate_zero, List.push_toArray, List.append_toArray, List.nil_append, List.cons_append]
 gi_wp2
 gi_loopw [4] (fun i wr => i = .int .i64 0 ∧ wr = W) (fun _ _ => 0)
 case atStart => exact ⟨rfl, rfl⟩
 case round =>
  obtain ⟨rfl, rfl⟩ := hrel
  gi_wp2
  go_end0
  exact ⟨⟨_, rfl⟩, h0⟩
theorem chunk_stops (F : Fence) (n : Nat) (h7 : F.fn 176) (hro : F.round = none) (hn : 1 ≤ n) (Bs Bn : Nat) (Kp : World → World → Prop) (hKc : ∀ W W', Kp W W' → W'.cell? ⟨Bs, 0, none⟩ = W.cell? ⟨Bs, 0, none⟩ ∧ W'.cell? ⟨Bn, 0, none⟩ = W.cell? ⟨Bn, 0, none⟩) (p : Addr) (A : Option Addr) (len cap m : Nat) (hA : 0 < len → A = some p) (L : List It) (hL : L.length = len) (hm : 1 ≤ m) (hm2 : m ≤ 1000) (hlen : len ≤ 100000) (hcap : len ≤ cap) (w : World) (hb1 : Bs < w.heap.size) (hb2 : Bn < w.heap.size)
  (hBs : w.cell? ⟨Bs, 0, none⟩ = some (.slice A len cap)) (hBn : w.cell? ⟨Bn, 0, none⟩ = some (.int .i64 (m : Int))) :
  SeqStopsK F n Tryz.prog 176 #[.pointer (some ⟨Bs, 0, none⟩), .pointer (some ⟨Bn, 0, none⟩)] (fun x : Ck m len => #[Ck.val p x]) Kp (fun ys => ys.map (Ck.of L) = Tb.cut m len L) (fun _ => True) len w := fun l J Jx W hW hJ _ hY h0 => by
 have c1 := (hW.cell (p := ⟨Bs, 0, none⟩) hb1).trans hBs
 have c2 := (hW.cell (p := ⟨Bn, 0, none⟩) hb2).trans hBn
 have hJd : ∀ pre W, J pre W → J pre W.drew := fun pre W h => hJ pre W _ none h ⟨rfl, rfl, rfl, Nat.le_refl _, fun _ _ _ => rfl⟩ (fun r e => by cases e)
 rcases Nat.eq_zero_or_pos len with h | h
 ·subst h
  refine (chunk1_nil_in F n h7 hro l Bs Bn cap A (fun W => J [] W) W c1 h0).mono ?_
  rintro e W' ⟨he, hj⟩
  exact ⟨he, .inl ⟨[], by simp [Tb.cut], hj⟩⟩
 ·rw [hA h] at c1
  refine (chunk1_in F n h7 hro hn l Bs Bn Kp hKc p len cap m L hL hm hm2 hlen hcap J Jx hJd hY W c1 c2 h0).mono ?_
  rintro e W' ⟨he, ⟨ys, h1, h2⟩ | ⟨pre, h1⟩⟩
  ·exact ⟨he, .inl ⟨ys, h1, h2⟩⟩
  ·exact ⟨he, .inr ⟨pre, trivial, h1⟩⟩
theorem chunk_in (F : Fence) (n : Nat) (h5 : F.fn 106) (hro : F.round = none) (a : Option Addr) (len cap m : Nat) (hm : 1 ≤ m) (w : World) :
  CallsIn F n Tryz.prog 106 #[.slice a len cap, .int .i64 (m : Int)] w fun e w' => e = .returned (.func (.func 176) #[] #[.pointer (some ⟨w.heap.size, 0, none⟩), .pointer (some ⟨w.heap.size + 1, 0, none⟩)]) ∧ w' = (w.alloc (.cells #[.slice a len cap] 24)).alloc (.cells #[.int .i64 (m : Int)] 3) := by
 have h1 : ((m : Int) < 1) = False := eq_false (by omega)
 refine callsIn_of_wp Tryz.func106 rfl h5 ?_ hro
 simp only [Tryz.ntmps106, List.size_toArray, List.length_cons, List.length_nil, Nat.reduceAdd, Nat.reduceSub, Array.replicate_succ, Array.replicate_zero, List.push_toArray, List.append_toArray, List.nil_append, List.cons_append]
 gi_wp2
 go_ret
 exact ⟨rfl, rfl⟩
end
section
open Go Go.RowKit Go.Lib Go.Shelf
attribute [local go_sem] Oper.semAt_some
theorem info_row : (Tryz.prog.info? 24).map (fun i => (i.zero, i.size, i.bytes)) = some (some (.slice none 0 0), 1, 24) := by kernel_rfl
theorem iclone_any (p : Addr) (n c : Nat) (l : List It) (w : World) (h0 : 0 < n) (hn : n ≤ 1000000) (hr : Row w.heap.size w (some p) n 5 (itc l)) :
  Calls Tryz.prog 249 #[.slice (some p) n c] w fun e w' => ∃ A' c', e = .returned (.slice A' n c') ∧ w'.ownsRow w.heap.size 27 5 (.slice A' n c') n (itc l) ∧ n ≤ c' ∧ c' ≤ maxLen ∧ Below w.heap.size w w' := by
 obtain ⟨i0, hi0, hz0, hz1, hz2⟩ := info_parts info_item
 have HR := Lib.hid hr
 clear hr
 go_enter Tryz.func249, Tryz.ntmps249
 have ho0 : (w.alloc (.cells #[] 27)).ownsRow w.heap.size 27 5 (.slice (some ⟨w.heap.size, 0, none⟩) 0 0) 0 [] := ⟨rfl, .inr ⟨w.heap.size, 0, #[], rfl, Nat.le_refl _, heap_alloc_new w _, Nat.le_refl _, by decide, rfl, rfl⟩⟩
 have hb0 := (Below.refl w.heap.size w).alloc (Nat.le_refl _) (.cells #[] 27)
 have HO := Lib.hid ho0
 have HB := Lib.hid hb0
 have HR2 := Lib.hid (HR.out.below hb0)
 clear ho0 hb0
 have hnil : ∀ W, (binOp .eql 24 (.slice (some p) n c) (.slice none 0 0)).run Tryz.prog W = .ok (.bool false) W := fun W => Lib.run_eql_slice_some_nil (e := 27) W _ _ _ (by kernel_rfl)
 go_wp2_with (at_builtin; refine stop_in ?_)
 refine stop_out (wpList_app rfl (.tmp 5) (.tmp 6) _ rfl w.heap.size 27 i0 _ 5 40 Tryz.underlying24 hi0 hz0 hz1 hz2 rfl (by omega) w HB.out HB.out.size _ 0 [] rfl HO.out w.heap.size _ n c (itc l) rfl HR2.out (itc_one l) n _ (Nat.zero_add n) (List.nil_append _) (by unfold maxLen; omega) (by omega) ?_)
 intro A3 c3 w3 z1 z2 z3 z4 z5
 have HF := Lib.hid z1
 clear z1 z3 HO HB HR2
 go_wp2
 go_ret
 exact ⟨A3, c3, rfl, HF.out, z4, z5, z2⟩
def Kp3 (n₀ a b : Nat) (W W' : World) : Prop := Below n₀ W W' ∧ W'.heap[a]? = W.heap[a]? ∧ W'.heap[b]? = W.heap[b]?
theorem Kp3.trans {n₀ a b : Nat} {A B C : World} (h : Kp3 n₀ a b A B) (k : Kp3 n₀ a b B C) : Kp3 n₀ a b A C := ⟨h.1.trans k.1, k.2.1.trans h.2.1, k.2.2.trans h.2.2⟩
theorem Kp3.cell {n₀ a b : Nat} (W W' : World) (h : Kp3 n₀ a b W W') : W'.cell? ⟨a, 0, none⟩ = W.cell? ⟨a, 0, none⟩ ∧ W'.cell? ⟨b, 0, none⟩ = W.cell? ⟨b, 0, none⟩ := ⟨World.cell?_of_block h.2.1, World.cell?_of_block h.2.2⟩
theorem own_ne {W : World} {base : Nat} {e : TypeId} {size n : Nat} {v : Value} {xs : List Value} (h : W.ownsRow base e size v n xs) {row : Option Nat} (hr : ∀ r, row = some r → ∀ cs fr, W.heap[r]? ≠ some (.cells cs e fr)) : v.ownBlock = none ∨ v.ownBlock ≠ row := by
 rcases h.2 with ⟨rfl, _⟩ | ⟨g, cap, cur, rfl, hb, hgb, _⟩
 ·exact .inl rfl
 ·exact .inr fun e' => hr g (by simpa [Value.ownBlock] using e'.symm) _ _ hgb
def Cuts {m len : Nat} (n₀ : Nat) (W : World) (L : List It) (v : Value) (pre : List (Ck m len)) : Prop := ∃ vs, W.ownsRow n₀ 24 1 v pre.length vs ∧ ∀ i (h : i < pre.length), ∃ A k c, vs[i]? = some (.slice A k c) ∧ k ≤ c ∧ c ≤ maxLen ∧ W.ownsRow n₀ 27 5 (.slice A k c) k (itc (Ck.of L pre[i]))
theorem Cuts.kept {m len n₀ : Nat} {W W' : World} {L : List It} {v : Value} {pre : List (Ck m len)} (h : Cuts n₀ W L v pre) {row : Option Nat} (hg : W.grownBy W' row) (hr : ∀ r, row = some r → ∀ cs fr, W.heap[r]? ≠ some (.cells cs 24 fr) ∧ W.heap[r]? ≠ some (.cells cs 27 fr)) : Cuts n₀ W' L v pre := by
 obtain ⟨vs, h1, h2⟩ := h
 refine ⟨vs, h1.kept hg (own_ne h1 fun r e cs fr => (hr r e cs fr).1), fun i hi => ?_⟩
 obtain ⟨A, k, c, z1, z2, z3, z4⟩ := h2 i hi
 exact ⟨A, k, c, z1, z2, z3, z4.kept hg (own_ne z4 fun r e cs fr => (hr r e cs fr).2)⟩
theorem Cuts.more {m len n₀ : Nat} {W W' : World} {L : List It} {v v' : Value} {vs : List Value} {pre : List (Ck m len)} {x : Ck m len} {A : Option Addr} {k c : Nat} (h : ∀ i (h : i < pre.length), ∃ A k c, vs[i]? = some (.slice A k c) ∧ k ≤ c ∧ c ≤ maxLen ∧ W.ownsRow n₀ 27 5 (.slice A k c) k (itc (Ck.of L pre[i]))) (hl : vs.length = pre.length) (hg : W.grownBy W' v.ownBlock) (hv : W.ownsRow n₀ 24 1 v pre.length vs)
  (hk : k ≤ c) (hc : c ≤ maxLen) (ho : W.ownsRow n₀ 27 5 (.slice A k c) k (itc (Ck.of L x))) (hv' : W'.ownsRow n₀ 24 1 v' (pre.length + 1) (vs ++ [.slice A k c])) : Cuts n₀ W' L v' (pre ++ [x]) := by
 have hne : ∀ r, v.ownBlock = some r → ∀ cs fr, W.heap[r]? ≠ some (.cells cs 27 fr) := by
  intro r hr cs fr e
  rcases hv.2 with ⟨rfl, _⟩ | ⟨g, cap, cur, rfl, hb, hgb, _⟩
  ·simp [Value.ownBlock] at hr
  ·obtain rfl : g = r := by simpa [Value.ownBlock] using hr
   rw [hgb] at e
   injection e with e
   injection e with _ e
   exact absurd e (by decide)
 refine ⟨vs ++ [.slice A k c], by rw [List.length_append]; exact hv', fun i hi => ?_⟩
 rw [List.length_append] at hi
 rcases Nat.lt_or_ge i pre.length with h1 | h1
 ·obtain ⟨A, k, c, z1, z2, z3, z4⟩ := h i h1
  refine ⟨A, k, c, by rw [List.getElem?_append_left (by omega)]; exact z1, z2, z3, ?_⟩
  rw [List.getElem_append_left h1]
  exact z4.kept hg (own_ne z4 hne)
 ·have h2 : i = pre.length := by simp at hi; omega
  subst h2
  refine ⟨A, k, c, by rw [← hl]; simp, hk, hc, ?_⟩
  rw [List.getElem_append_right (Nat.le_refl _)]
  simp only [Nat.sub_self, List.getElem_cons_zero]
  exact ho.kept hg (own_ne ho hne)
theorem Cuts.rows {m len n₀ : Nat} {W : World} {L : List It} {A : Option Addr} {n c : Nat} {pre : List (Ck m len)} (h : Cuts n₀ W L (.slice A n c) pre) : n = pre.length ∧ IRows W.heap.size W A n (pre.map (Ck.of L)) := by
 obtain ⟨vs, h1, h2⟩ := h
 have hn : n = pre.length := by
  rcases h1.2 with ⟨e, e2⟩ | ⟨g, cap, cur, e, _⟩
  ·injection e with _ e _
   omega
  ·injection e
 subst hn
 refine ⟨rfl, vs, Row.own h1, by simp, fun i hi => ?_⟩
 rw [List.length_map] at hi
 obtain ⟨A, k, c, z1, z2, z3, z4⟩ := h2 i hi
 exact ⟨A, k, c, z1, z2, z3, by rw [List.getElem_map]; exact Row.own z4⟩
theorem step_appI {P : Program} {F : Fence} {nF : Nat} {ops : Array Oper} {o : Oper} {a : Act} {w : World} {K : Act → World → Prop} {Q : Exit → Act → World → Prop} {E : Prop} (hgd : o.guard = none) (s x : Operand) (t : TypeId)
  (ho : o.op = .call { callee := .builtin .append, args := #[s, x], argTypes := #[t, t] })
  (base : Nat) (e : TypeId) (i : TypeInfo) (z : Value) (size bytes : Nat) (ht : P.underlying t = some (.slice e)) (hi : P.info? e = some i) (hz : i.zero = some z)
  (hsize : i.size = size) (hby : i.bytes = bytes) (hzs : z.cells.size = size) (hsz : 0 < size) (hbase : base ≤ w.heap.size) (v : Value) (n : Nat) (xs : List Value) (hs : a.eval s = v) (hown : w.ownsRow base e size v n xs)
  (B : Nat) (A : Option Addr) (m c : Nat) (news : List Value) (hx : a.eval x = .slice A m c) (hr : Row B w A m size news) (h1 : ∀ u ∈ news, u.oneCell' = true)
  (N : Nat) (X : List Value) (hN : n + m = N) (hX : xs ++ news = X) (h63 : N ≤ maxLen) (hbytes : N * bytes ≤ 140737488355328)
  (h : ∀ A' c' w', w'.ownsRow base e size (.slice A' N c') N X → w.grownBy w' v.ownBlock → N ≤ c' → c' ≤ maxLen → ((Value.slice A' N c').ownBlock = v.ownBlock ∨ (Value.slice A' N c').ownBlock = some w.heap.size) → K (a.put o.dst (.slice A' N c')) w') :
  if Region.wanted o (yielded ops a.tmps) = true then Oper.wpIn F nF P o a w K Q else E := by
 have hw : Region.wanted o (yielded ops a.tmps) = true := by simp [Region.wanted, hgd]
 rw [if_pos hw]
 subst hN
 subst hX
 obtain ⟨A', c', w', hrun, h3, h4, h5, h7, h6⟩ := run_appG (P := P) w base t o.type e i z size bytes ht hi hz hsize hby hzs hsz v n xs hown B A m c news hr h1 h63 hbytes hbase
 unfold Oper.wpIn
 refine ⟨by simp [Oper.about, ho, resolve, Target.leads, Sem.run_pure], ?_⟩
 rw [Oper.semAt_plain F _ _ (by rw [ho]; intro c hc'; cases hc')]
 simp [execOp, ho, resolve, invoke, builtin, hs, hx, hrun, Result.andThen]
 exact h _ _ _ h3 h4 h5 h7 h6
theorem itc_min (L : List It) (k m : Nat) {len : Nat} (hL : L.length = len) : ((itc L).drop (k * 5)).take (m * 5) = ((itc L).drop (k * 5)).take (min m (len - k) * 5) := by
 rcases Nat.le_total m (len - k) with h | h
 ·rw [Nat.min_eq_left h]
 ·rw [Nat.min_eq_right h, List.take_of_length_le (by rw [List.length_drop, itc_length]; omega), List.take_of_length_le (by rw [List.length_drop, itc_length]; omega)]
theorem bcut_round {m len : Nat} {w W w1 w3 : World} {L : List It} {v : Value} {A1 A3 : Option Addr} {c1 c3 : Nat} {vs : List Value} {pre : List (Ck m len)} {x : Ck m len} (o : Obj)
  (h1 : w3.ownsRow (w.heap.size + 3) 24 1 (.slice A3 (pre.length + 1) c3) (pre.length + 1) (vs ++ [.slice A1 x.len c1])) (hg : (w1.alloc o).grownBy w3 v.ownBlock) (hb : Below W.heap.size W w1)
  (ho : w1.ownsRow W.heap.size 27 5 (.slice A1 x.len c1) x.len (itc (Ck.of L x))) (hc : x.len ≤ c1 ∧ c1 ≤ maxLen)
  (hX : Boxed w3 w.heap.size 136 v ∧ Boxed (w3.setCell ⟨w.heap.size, 0, none⟩ (.slice A3 (pre.length + 1) c3)) w.heap.size 136 (.slice A3 (pre.length + 1) c3) ∧ KeepsOthers w1 (w3.setCell ⟨w.heap.size, 0, none⟩ (.slice A3 (pre.length + 1) c3)) ∧ Below w.heap.size w1 (w3.setCell ⟨w.heap.size, 0, none⟩ (.slice A3 (pre.length + 1) c3)))
  (hel : ∀ i (h : i < pre.length), ∃ A k c, vs[i]? = some (.slice A k c) ∧ k ≤ c ∧ c ≤ maxLen ∧ W.ownsRow (w.heap.size + 3) 27 5 (.slice A k c) k (itc (Ck.of L pre[i]))) (hown : W.ownsRow (w.heap.size + 3) 24 1 v pre.length vs) (hsz : w.heap.size + 3 ≤ W.heap.size) (hB : Below w.heap.size w W) :
  KeepsOthers W (w3.setCell ⟨w.heap.size, 0, none⟩ (.slice A3 (pre.length + 1) c3)) ∧ Kp3 w.heap.size (w.heap.size + 1) (w.heap.size + 1 + 1) W (w3.setCell ⟨w.heap.size, 0, none⟩ (.slice A3 (pre.length + 1) c3)) ∧
   ((w.heap.size + 3 ≤ (w3.setCell ⟨w.heap.size, 0, none⟩ (.slice A3 (pre.length + 1) c3)).heap.size ∧ ∃ v', Boxed (w3.setCell ⟨w.heap.size, 0, none⟩ (.slice A3 (pre.length + 1) c3)) w.heap.size 136 v' ∧ Cuts (w.heap.size + 3) (w3.setCell ⟨w.heap.size, 0, none⟩ (.slice A3 (pre.length + 1) c3)) L v' (pre ++ [x])) ∧ Below w.heap.size w (w3.setCell ⟨w.heap.size, 0, none⟩ (.slice A3 (pre.length + 1) c3))) := by
 obtain ⟨x1, x2, x3, x4⟩ := hX
 have hbW := hb.mono (show w.heap.size ≤ W.heap.size by omega)
 have hg1 : W.grownBy w1 none := ⟨hb.os, hb.tape, hb.output, hb.size, fun k hk _ => hb.block k hk⟩
 have hk1 : KeepsOthers W w1 := KeepsOthers.of_grownBy hg1 (fun j o ej => by cases ej)
 have hown1 := (own_below hown hb).alloc o
 have hvb : ∀ k, v.ownBlock = some k → w.heap.size + 3 ≤ k := by
  intro k hk
  rcases hown.2 with ⟨rfl, _⟩ | ⟨g, cap, cur, rfl, hb, hgb, _⟩
  ·simp [Value.ownBlock] at hk
  ·obtain rfl : g = k := by simpa [Value.ownBlock] using hk
   exact hb
 have hsame : ∀ k, k < w.heap.size + 3 → k ≠ w.heap.size → (w3.setCell ⟨w.heap.size, 0, none⟩ (.slice A3 (pre.length + 1) c3)).heap[k]? = W.heap[k]? := by
  intro k hk hk2
  rw [Below.heap_setCell _ _ _ k (fun e => hk2 e), hg.block k (by rw [World.size_alloc]; have := hb.size; omega) (fun e => by have := hvb k e.symm; omega), Below.heap_alloc _ _ k (by have := hb.size; omega), hb.block k (by omega)]
 refine ⟨hk1.trans x3, ⟨hbW.trans x4, hsame _ (by omega) (by omega), hsame _ (by omega) (by omega)⟩, ⟨?_, _, x2, ?_⟩, (hB.trans hbW).trans x4⟩
 ·have h2 := x4.size
  have := hb.size
  omega
 ·have hcm : Cuts (w.heap.size + 3) w3 L (.slice A3 (pre.length + 1) c3) (pre ++ [x]) := by
   refine Cuts.more (W := w1.alloc o) (v := v) (fun i hi => ?_) (by have := hown.1; omega) hg hown1 hc.1 hc.2 (own_base (ho.alloc o) hsz) h1
   obtain ⟨A, k, c, z1, z2, z3, z4⟩ := hel i hi
   exact ⟨A, k, c, z1, z2, z3, (own_below z4 hb).alloc o⟩
  refine hcm.kept (grownBy_setCell' _ _ _) (fun r e cs fr => ?_)
  cases e
  constructor <;> (intro e2; rw [show w3.heap[w.heap.size]? = _ from x1] at e2; injection e2 with e2; injection e2 with _ e2; exact absurd e2 (by decide))
theorem bcut_any (A : Option Addr) (len c : Nat) (L : List It) (w : World) (hlen : len ≤ 2000) (hlc : len ≤ c) (hr : Row w.heap.size w A len 5 (itc L)) :
  Calls Tryz.prog 218 #[.slice A len c, .int .i64 20] w fun e w' => ∃ A' k c', e = .returned (.slice A' k c') ∧ k ≤ c' ∧ c' ≤ maxLen ∧ IRows w'.heap.size w' A' k (Tb.cut 20 len L) ∧ Below w.heap.size w w' := by
 obtain ⟨i0, hi0, hz0, hz1, hz2⟩ := info_parts info_row
 have hLl := hr.itlen
 have hm1 : max (20 : Int) 1 = 20 := by decide
 have hm2 : min (20 : Int) 100 = 20 := by decide
 obtain ⟨p, hp⟩ : ∃ p, 0 < len → A = some p := by
  cases A with
  | none =>
   refine ⟨⟨0, 0, none⟩, fun h => ?_⟩
   obtain ⟨a, _, e, _⟩ := hr.it h
   cases e
  | some p => exact ⟨p, fun _ => rfl⟩
 have HR := Lib.hid hr
 have HP := Lib.hid hp
 clear hr hp
 refine (callsIn_wide (n := 6)).1 ?_
 refine callsIn_of_wp_marks Tryz.func218 rfl trivial ?_ rfl
 simp only [Tryz.ntmps218, List.size_toArray, List.length_cons, List.length_nil, Nat.reduceAdd, Nat.reduceSub, Array.replicate_succ, Array.replicate_zero, List.push_toArray, List.append_toArray, List.nil_append, List.cons_append]
 gi_wp2_with (refine ⟨trivial, ?_⟩; gi_at_call 106; refine (chunk_in Fence.wide 5 trivial rfl A len c 20 (by omega) _).mono ?_; rintro e w' ⟨rfl, rfl⟩)
 have bO := Boxed.new w 136 (.slice none 0 0)
 have bS := Boxed.new (w.alloc (.cells #[.slice none 0 0] 136)) 24 (.slice A len c)
 have bM := Boxed.new ((w.alloc (.cells #[.slice none 0 0] 136)).alloc (.cells #[.slice A len c] 24)) 3 (.int .i64 ((20 : Nat) : Int))
 rw [World.size_alloc] at bS
 rw [World.size_alloc, World.size_alloc] at bM
 have hB0 : Below w.heap.size w (((w.alloc (.cells #[.slice none 0 0] 136)).alloc (.cells #[.slice A len c] 24)).alloc (.cells #[.int .i64 ((20 : Nat) : Int)] 3)) := (((Below.refl _ w).alloc (Nat.le_refl _) _).alloc (by simp) _).alloc (by simp; omega) _
 have hst := chunk_stops Fence.wide 5 trivial rfl (by omega) (w.heap.size + 1) (w.heap.size + 1 + 1) (Kp3 w.heap.size (w.heap.size + 1) (w.heap.size + 1 + 1)) Kp3.cell p A len c 20 HP.out L hLl (by omega) (by omega) (by omega) hlc _ (by simp) (by simp) (bS.alloc _).cell bM.cell
 refine wpIn_rangeFunc_ownF (α := Ck 20 len) (n := 6) (encs := fun x => #[Ck.val p x]) rfl (by omega) (gf := 176) (lb := #[.pointer (some ⟨w.heap.size + 1, 0, none⟩), .pointer (some ⟨w.heap.size + 1 + 1, 0, none⟩)]) rfl trivial (enters_of Tryz.func176 (by kernel_rfl) rfl) hst Kp3.trans ?hKb (Below.refl _ _) (fun _ => rfl)
  (fun pre W => (w.heap.size + 3 ≤ W.heap.size ∧ ∃ v, Boxed W w.heap.size 136 v ∧ Cuts (w.heap.size + 3) W L v pre) ∧ Below w.heap.size w W)
  (fun _ _ _ => False) ?hI (fun _ _ _ _ _ hs _ _ => hs) ⟨⟨by simp, _, (bO.alloc _).alloc _, [], World.ownsRow_nil _ _ _ _, fun i hi => absurd hi (by simp)⟩, hB0⟩
  (fun x => { tmps := #[.slice A len c, .int .i64 20, undef, undef, .slice none 0 0, .pointer (some ⟨w.heap.size, 0, none⟩), Ck.val p x, .slice A len c, .int .i64 20, .int .i64 20, .int .i64 20, .func (.func 176) #[] #[.pointer (some ⟨w.heap.size + 1, 0, none⟩), .pointer (some ⟨w.heap.size + 1 + 1, 0, none⟩)], Ck.val p x, undef, undef, undef, undef, undef, undef], defers := [] }) ?assign ?body ?done ?stop
 case hKb =>
  intro W l o o' hl ho h1 h2
  refine ⟨belowK_b (by simp; omega) W l o o' hl ho h1 h2, World.putObj_heap_other (fun e => ?_), World.putObj_heap_other (fun e => ?_)⟩
  ·simp at hl; omega
  ·simp at hl; omega
 case hI =>
  refine OwnFrom.and (fun pre W W' row hs hg hr => ?_) (ownFrom_below (Nat.le_refl _) (by simp; omega))
  obtain ⟨h0, v, h1, h2⟩ := hs
  have hr' : ∀ r, row = some r → ∃ o : Obj, W.heap[r]? = some o ∧ o.isCells = false := fun r e => (hr r e).2
  refine ⟨Nat.le_trans h0 hg.size, v, h1.kept hg (fun e' => ?_), h2.kept hg fun r e cs fr => ?_⟩
  ·obtain ⟨o, ho, hc⟩ := hr' _ e'.symm
   rw [show W.heap[w.heap.size]? = _ from h1] at ho
   cases ho
   cases hc
  ·obtain ⟨o, ho, hc⟩ := hr' r e
   constructor <;> (intro e2; rw [ho] at e2; cases e2; cases hc)
 case assign =>
  intro l x W K hK
  gi_wp2
  exact hK
 case body =>
  rintro l pre x W ⟨⟨hsz, v, hv, vs, hown, hel⟩, hB⟩ hlt
  have hc := hv.cell
  have hx := x.2
  have hx1 : 0 < x.len := by unfold Ck.len; omega
  have hx2 : x.len ≤ 20 := by unfold Ck.len; omega
  have hx3 : x.1 * 20 + x.len ≤ len := by unfold Ck.len; omega
  have hA : A = some p := HP.out (by omega)
  have hrow : Row W.heap.size W.drew (some (p.add (x.1 * 20 * 5))) x.len 5 (itc (Ck.of L x)) := by
   have h1 := ((HR.out.below hB).up hB.size).drew
   have h2 := h1.cut (k := x.1 * 20) (m := x.1 * 20 + x.len) (A' := some (p.add (x.1 * 20 * 5))) (by omega) (by omega) (fun _ => by rw [hA]; rfl)
   rw [show x.1 * 20 + x.len - x.1 * 20 = x.len from by omega] at h2
   rw [show itc (Ck.of L x) = ((itc L).drop (x.1 * 20 * 5)).take (x.len * 5) from by unfold Ck.of; rw [itc_take, itc_drop]; exact itc_min L (x.1 * 20) 20 hLl]
   exact h2
  have HROW := Lib.hid hrow
  have HEL := Lib.hid hel
  have HOWN := Lib.hid hown
  have HV := Lib.hid hv
  have HBW := Lib.hid hB
  clear hrow hel hown hv hA hx hx3 hst bO bS bM hB0
  gi_wp2
  refine wpIn_region_any (by kernel_rfl) ?_
  change wpAnyIn _ _ _ _ _ _ _ _ _ (World.drew _)
  refine wpAnyIn_ready (rs := [0, 1]) (by kernel_rfl) (by simp) ?_
  refine AllReadyIn.cons rfl (fun K hK => ?_) ?_
  ·go_simp
   refine hK _ _ ?_
   clear hK K
   refine wpAnyIn_ready (rs := [1]) (by kernel_rfl) (by simp) ?_
   refine AllReadyIn.cons rfl (fun K hK => ?_) ?_
   ·go_simp
    refine hK _ _ ?_
    clear hK K
    refine wpAnyIn_ready (rs := [2]) (by kernel_rfl) (by simp) ?_
    refine AllReadyIn.cons rfl (fun K hK => ?_) ?_
    ·go_simp
     gi_wp2_with (refine ⟨trivial, ?_⟩; gi_at_call 249; refine (CallsIn.inRound l (callsIn_wide.2 (iclone_any _ x.len _ (Ck.of L x) _ (by omega) (by omega) HROW.out))).mono ?_; rintro e w1 ⟨A1, c1, rfl, ho1, hc1, hc2, hb1⟩)
     have HO1 := Lib.hid (ho1 : w1.ownsRow W.heap.size 27 5 (.slice A1 x.len c1) x.len (itc (Ck.of L x)))
     have HB1 := Lib.hid (((Below.refl W.heap.size W).drew).trans hb1)
     have hcc := (HB1.out.cell (p := ⟨w.heap.size, 0, none⟩) HV.out.lt).trans hc
     have hca := (World.cell?_alloc_lt w1 (.cells #[.slice A1 x.len c1] 24) ⟨w.heap.size, 0, none⟩ (by have := HB1.out.size; have : w1.drew.heap.size = w1.heap.size := rfl; simp; omega)).trans hcc
     have HC1 := Lib.hid (And.intro hc1 hc2)
     clear ho1 hb1 hc1 hc2
     refine wpAnyIn_ready (rs := [3]) (by kernel_rfl) (by simp) ?_
     refine AllReadyIn.cons rfl (fun K hK => ?_) ?_
     ·go_simp
      refine hK _ _ ?_
      clear hK K
      refine wpAnyIn_ready (rs := [4]) (by kernel_rfl) (by simp) ?_
      refine AllReadyIn.cons rfl (fun K hK => ?_) ?_
      ·refine step_appI rfl (.tmp 13) (.tmp 16) _ rfl (w.heap.size + 3) 24 i0 _ 1 24 Tryz.underlying136 hi0 hz0 hz1 hz2 rfl (by omega) (by have := HB1.out.size; rw [World.size_alloc]; omega) v pre.length vs rfl ((own_below HOWN.out HB1.out).alloc _) _ (some ⟨w1.heap.size, 0, none⟩) 1 1 [.slice A1 x.len c1] rfl (Row.new w1 #[.slice A1 x.len c1] 24 rfl) (by simp [Value.oneCell']) (pre.length + 1) _ rfl rfl (by unfold maxLen; omega) (by omega) ?_
       intro A3 c3 w3 hown3 hg3 _ _ _
       have HW := Lib.hid (And.intro hown3 hg3)
       clear hown3 hg3
       have hv1 : Boxed w1 w.heap.size 136 v := (HB1.out.block _ HV.out.lt).trans HV.out
       obtain ⟨hx1, hx2, hx3, hx4, hx5⟩ := hv1.appended (by decide) (own_base (own_below HOWN.out HB1.out) (Nat.le_add_right _ 3)) (by have := HB1.out.size; omega) (Nat.le_refl _) (own_base HW.out.1 (Nat.le_add_right _ 3)) HW.out.2
       have hcc3 := hx1.cell
       have hcf3 := hx1.frozen
       have HX := Lib.hid (And.intro hx1 (And.intro hx2 (And.intro hx4 hx5)))
       clear hx1 hx2 hx3 hx4 hx5 hv1
       refine hK _ _ ?_
       clear hK K
       refine wpAnyIn_ready (rs := [5]) (by kernel_rfl) (by simp) ?_
       refine AllReadyIn.cons rfl (fun K hK => ?_) ?_
       ·go_simp
        refine hK _ _ ?_
        clear hK K
        refine wpAnyIn_done (by kernel_rfl) ?_ _
        gi_wp2
        exact bcut_round _ HW.out.1 HW.out.2 HB1.out HO1.out HC1.out HX.out HEL.out HOWN.out hsz HBW.out
       exact AllReadyIn.nil
      exact AllReadyIn.nil
     exact AllReadyIn.nil
    exact AllReadyIn.nil
   exact AllReadyIn.nil
  refine AllReadyIn.cons rfl (fun K hK => ?_) ?_
  ·go_simp
   refine hK _ _ ?_
   clear hK K
   refine wpAnyIn_ready (rs := [0, 2]) (by kernel_rfl) (by simp) ?_
   refine AllReadyIn.cons rfl (fun K hK => ?_) ?_
   ·go_simp
    refine hK _ _ ?_
    clear hK K
    refine wpAnyIn_ready (rs := [2]) (by kernel_rfl) (by simp) ?_
    refine AllReadyIn.cons rfl (fun K hK => ?_) ?_
    ·go_simp
     gi_wp2_with (refine ⟨trivial, ?_⟩; gi_at_call 249; refine (CallsIn.inRound l (callsIn_wide.2 (iclone_any _ x.len _ (Ck.of L x) _ (by omega) (by omega) HROW.out))).mono ?_; rintro e w1 ⟨A1, c1, rfl, ho1, hc1, hc2, hb1⟩)
     have HO1 := Lib.hid (ho1 : w1.ownsRow W.heap.size 27 5 (.slice A1 x.len c1) x.len (itc (Ck.of L x)))
     have HB1 := Lib.hid (((Below.refl W.heap.size W).drew).trans hb1)
     have hcc := (HB1.out.cell (p := ⟨w.heap.size, 0, none⟩) HV.out.lt).trans hc
     have hca := (World.cell?_alloc_lt w1 (.cells #[.slice A1 x.len c1] 24) ⟨w.heap.size, 0, none⟩ (by have := HB1.out.size; have : w1.drew.heap.size = w1.heap.size := rfl; simp; omega)).trans hcc
     have HC1 := Lib.hid (And.intro hc1 hc2)
     clear ho1 hb1 hc1 hc2
     refine wpAnyIn_ready (rs := [3]) (by kernel_rfl) (by simp) ?_
     refine AllReadyIn.cons rfl (fun K hK => ?_) ?_
     ·go_simp
      refine hK _ _ ?_
      clear hK K
      refine wpAnyIn_ready (rs := [4]) (by kernel_rfl) (by simp) ?_
      refine AllReadyIn.cons rfl (fun K hK => ?_) ?_
      ·refine step_appI rfl (.tmp 13) (.tmp 16) _ rfl (w.heap.size + 3) 24 i0 _ 1 24 Tryz.underlying136 hi0 hz0 hz1 hz2 rfl (by omega) (by have := HB1.out.size; rw [World.size_alloc]; omega) v pre.length vs rfl ((own_below HOWN.out HB1.out).alloc _) _ (some ⟨w1.heap.size, 0, none⟩) 1 1 [.slice A1 x.len c1] rfl (Row.new w1 #[.slice A1 x.len c1] 24 rfl) (by simp [Value.oneCell']) (pre.length + 1) _ rfl rfl (by unfold maxLen; omega) (by omega) ?_
       intro A3 c3 w3 hown3 hg3 _ _ _
       have HW := Lib.hid (And.intro hown3 hg3)
       clear hown3 hg3
       have hv1 : Boxed w1 w.heap.size 136 v := (HB1.out.block _ HV.out.lt).trans HV.out
       obtain ⟨hx1, hx2, hx3, hx4, hx5⟩ := hv1.appended (by decide) (own_base (own_below HOWN.out HB1.out) (Nat.le_add_right _ 3)) (by have := HB1.out.size; omega) (Nat.le_refl _) (own_base HW.out.1 (Nat.le_add_right _ 3)) HW.out.2
       have hcc3 := hx1.cell
       have hcf3 := hx1.frozen
       have HX := Lib.hid (And.intro hx1 (And.intro hx2 (And.intro hx4 hx5)))
       clear hx1 hx2 hx3 hx4 hx5 hv1
       refine hK _ _ ?_
       clear hK K
       refine wpAnyIn_ready (rs := [5]) (by kernel_rfl) (by simp) ?_
       refine AllReadyIn.cons rfl (fun K hK => ?_) ?_
       ·go_simp
        refine hK _ _ ?_
        clear hK K
        refine wpAnyIn_done (by kernel_rfl) ?_ _
        gi_wp2
        exact bcut_round _ HW.out.1 HW.out.2 HB1.out HO1.out HC1.out HX.out HEL.out HOWN.out hsz HBW.out
       exact AllReadyIn.nil
      exact AllReadyIn.nil
     exact AllReadyIn.nil
    exact AllReadyIn.nil
   refine AllReadyIn.cons rfl (fun K hK => ?_) ?_
   ·go_simp
    gi_wp2_with (refine ⟨trivial, ?_⟩; gi_at_call 249; refine (CallsIn.inRound l (callsIn_wide.2 (iclone_any _ x.len _ (Ck.of L x) _ (by omega) (by omega) HROW.out))).mono ?_; rintro e w1 ⟨A1, c1, rfl, ho1, hc1, hc2, hb1⟩)
    have HO1 := Lib.hid (ho1 : w1.ownsRow W.heap.size 27 5 (.slice A1 x.len c1) x.len (itc (Ck.of L x)))
    have HB1 := Lib.hid (((Below.refl W.heap.size W).drew).trans hb1)
    have hcc := (HB1.out.cell (p := ⟨w.heap.size, 0, none⟩) HV.out.lt).trans hc
    have hca := (World.cell?_alloc_lt w1 (.cells #[.slice A1 x.len c1] 24) ⟨w.heap.size, 0, none⟩ (by have := HB1.out.size; have : w1.drew.heap.size = w1.heap.size := rfl; simp; omega)).trans hcc
    have HC1 := Lib.hid (And.intro hc1 hc2)
    clear ho1 hb1 hc1 hc2
    refine wpAnyIn_ready (rs := [0, 3]) (by kernel_rfl) (by simp) ?_
    refine AllReadyIn.cons rfl (fun K hK => ?_) ?_
    ·go_simp
     refine hK _ _ ?_
     clear hK K
     refine wpAnyIn_ready (rs := [3]) (by kernel_rfl) (by simp) ?_
     refine AllReadyIn.cons rfl (fun K hK => ?_) ?_
     ·go_simp
      refine hK _ _ ?_
      clear hK K
      refine wpAnyIn_ready (rs := [4]) (by kernel_rfl) (by simp) ?_
      refine AllReadyIn.cons rfl (fun K hK => ?_) ?_
      ·refine step_appI rfl (.tmp 13) (.tmp 16) _ rfl (w.heap.size + 3) 24 i0 _ 1 24 Tryz.underlying136 hi0 hz0 hz1 hz2 rfl (by omega) (by have := HB1.out.size; rw [World.size_alloc]; omega) v pre.length vs rfl ((own_below HOWN.out HB1.out).alloc _) _ (some ⟨w1.heap.size, 0, none⟩) 1 1 [.slice A1 x.len c1] rfl (Row.new w1 #[.slice A1 x.len c1] 24 rfl) (by simp [Value.oneCell']) (pre.length + 1) _ rfl rfl (by unfold maxLen; omega) (by omega) ?_
       intro A3 c3 w3 hown3 hg3 _ _ _
       have HW := Lib.hid (And.intro hown3 hg3)
       clear hown3 hg3
       have hv1 : Boxed w1 w.heap.size 136 v := (HB1.out.block _ HV.out.lt).trans HV.out
       obtain ⟨hx1, hx2, hx3, hx4, hx5⟩ := hv1.appended (by decide) (own_base (own_below HOWN.out HB1.out) (Nat.le_add_right _ 3)) (by have := HB1.out.size; omega) (Nat.le_refl _) (own_base HW.out.1 (Nat.le_add_right _ 3)) HW.out.2
       have hcc3 := hx1.cell
       have hcf3 := hx1.frozen
       have HX := Lib.hid (And.intro hx1 (And.intro hx2 (And.intro hx4 hx5)))
       clear hx1 hx2 hx3 hx4 hx5 hv1
       refine hK _ _ ?_
       clear hK K
       refine wpAnyIn_ready (rs := [5]) (by kernel_rfl) (by simp) ?_
       refine AllReadyIn.cons rfl (fun K hK => ?_) ?_
       ·go_simp
        refine hK _ _ ?_
        clear hK K
        refine wpAnyIn_done (by kernel_rfl) ?_ _
        gi_wp2
        exact bcut_round _ HW.out.1 HW.out.2 HB1.out HO1.out HC1.out HX.out HEL.out HOWN.out hsz HBW.out
       exact AllReadyIn.nil
      exact AllReadyIn.nil
     exact AllReadyIn.nil
    refine AllReadyIn.cons rfl (fun K hK => ?_) ?_
    ·go_simp
     refine hK _ _ ?_
     clear hK K
     refine wpAnyIn_ready (rs := [0]) (by kernel_rfl) (by simp) ?_
     refine AllReadyIn.cons rfl (fun K hK => ?_) ?_
     ·go_simp
      refine hK _ _ ?_
      clear hK K
      refine wpAnyIn_ready (rs := [4]) (by kernel_rfl) (by simp) ?_
      refine AllReadyIn.cons rfl (fun K hK => ?_) ?_
      ·refine step_appI rfl (.tmp 13) (.tmp 16) _ rfl (w.heap.size + 3) 24 i0 _ 1 24 Tryz.underlying136 hi0 hz0 hz1 hz2 rfl (by omega) (by have := HB1.out.size; rw [World.size_alloc]; omega) v pre.length vs rfl ((own_below HOWN.out HB1.out).alloc _) _ (some ⟨w1.heap.size, 0, none⟩) 1 1 [.slice A1 x.len c1] rfl (Row.new w1 #[.slice A1 x.len c1] 24 rfl) (by simp [Value.oneCell']) (pre.length + 1) _ rfl rfl (by unfold maxLen; omega) (by omega) ?_
       intro A3 c3 w3 hown3 hg3 _ _ _
       have HW := Lib.hid (And.intro hown3 hg3)
       clear hown3 hg3
       have hv1 : Boxed w1 w.heap.size 136 v := (HB1.out.block _ HV.out.lt).trans HV.out
       obtain ⟨hx1, hx2, hx3, hx4, hx5⟩ := hv1.appended (by decide) (own_base (own_below HOWN.out HB1.out) (Nat.le_add_right _ 3)) (by have := HB1.out.size; omega) (Nat.le_refl _) (own_base HW.out.1 (Nat.le_add_right _ 3)) HW.out.2
       have hcc3 := hx1.cell
       have hcf3 := hx1.frozen
       have HX := Lib.hid (And.intro hx1 (And.intro hx2 (And.intro hx4 hx5)))
       clear hx1 hx2 hx3 hx4 hx5 hv1
       refine hK _ _ ?_
       clear hK K
       refine wpAnyIn_ready (rs := [5]) (by kernel_rfl) (by simp) ?_
       refine AllReadyIn.cons rfl (fun K hK => ?_) ?_
       ·go_simp
        refine hK _ _ ?_
        clear hK K
        refine wpAnyIn_done (by kernel_rfl) ?_ _
        gi_wp2
        exact bcut_round _ HW.out.1 HW.out.2 HB1.out HO1.out HC1.out HX.out HEL.out HOWN.out hsz HBW.out
       exact AllReadyIn.nil
      exact AllReadyIn.nil
     exact AllReadyIn.nil
    exact AllReadyIn.nil
   exact AllReadyIn.nil
  exact AllReadyIn.nil
 case done =>
  rintro D ys W hD hys ⟨⟨_, v, hv, hcu⟩, hB⟩ hK
  have hc := hv.cell
  gi_wp2
  have hcu2 := hcu.kept (grownBy_putObj' W D (.deferred none)) (fun r e cs fr => by cases e; rw [hK]; exact ⟨nofun, nofun⟩)
  obtain ⟨A', k', c', rfl, hkc1, hkc2⟩ : ∃ A' k c', v = .slice A' k c' ∧ k ≤ c' ∧ c' ≤ maxLen := by
   obtain ⟨vs, h1, _⟩ := hcu
   obtain ⟨A', c', e, h2, h3, _⟩ := own_form h1
   exact ⟨_, _, _, e, h2, h3⟩
  obtain ⟨hk', hrows⟩ := hcu2.rows
  refine ⟨by simp, .inl ⟨_, _, rfl, run_takeDeferred hK, ?_⟩⟩
  exact ⟨_, results_tmp rfl _ _ _, A', k', c', rfl, hkc1, hkc2, by rw [← hys]; exact hrows, hB.trans (belowK_b (w := w) (Nat.le_refl _) W D _ _ (by simp at hD; omega) hK rfl rfl)⟩
 case stop =>
  rintro D c pre W _ _ h _
  exact h.elim
end
end Go.Proofs.YtdkjoigpahafmaaGreatDoor
