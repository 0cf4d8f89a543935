/- Texts StoH, SOnce, StoC, StoD, StoE in one. No conditions. -/
import Derived.Test.YtdkjoigpahafmaaGreatDoorBunAA
import Derived.Test.YtdkjoigpahafmaaGreatDoorBunAR
import Derived.Test.YtdkjoigpahafmaaGreatDoorBunAL
import Derived.Test.YtdkjoigpahafmaaGreatDoorBunAP
import Derived.Lib.MinMax
import Derived.Test.YtdkjoigpahafmaaGreatDoorBunAO

set_option linter.unusedSimpArgs false
set_option linter.unusedVariables false
set_option maxRecDepth 100000
set_option maxHeartbeats 16000000
namespace Go.Proofs.YtdkjoigpahafmaaGreatDoor
section
open Go Go.RowKit Go.Lib Go.Shelf
variable {w w1 w2 : World} {X X1 X2 : Dw} {S S1 S2 : Sd} {Y Y1 Y2 : Yw} {V V1 V2 : Sv}
theorem SvAt.put (h : SvAt w X S Y V) (e : X1.d = X.d) (hd : Dm w1 X1 S1) (c : Chg (Y.g :: X.foot) w w1) (hf : ∀ g ∈ X1.foot, g ∈ X.foot ∨ w.heap.size ≤ g) {sz ct : Nat} (hl : LgAt w1 Y.g X.d V.nm sz ct) : SvAt w1 X1 S1 Y { V with sz := sz, ct := ct } ∧ Chg (XY X Y) w w1 ∧ ∀ g ∈ XY X1 Y, g ∈ XY X Y ∨ w.heap.size ≤ g := by
 have hn : ∀ g ∈ Y.foot, g ∉ X.foot := h.apart.x
 have hgf : Y.g ∈ Y.foot := Yw.mem_foot.2 (.inr (.inr (.inl rfl)))
 have hc2 : Chg (XY X Y) w w1 := c.mono fun g hg => .inl (by
  rcases List.mem_cons.1 hg with rfl | hg
  ·exact List.mem_append_right _ hgf
  ·exact List.mem_append_left _ hg)
 have hf2 : ∀ g ∈ XY X1 Y, g ∈ XY X Y ∨ w.heap.size ≤ g := fun g hg => by
  rcases List.mem_append.1 hg with h1 | h1
  ·rcases hf g h1 with h2 | h2
   ·exact .inl (List.mem_append_left _ h2)
   ·exact .inr h2
  ·exact .inl (List.mem_append_right _ h1)
 have hm : ∀ g ∈ Y.foot, g ≠ Y.g → g ∉ Y.g :: X.foot := fun g hg hne hmm => by
  rcases List.mem_cons.1 hmm with q | q
  ·exact hne q
  ·exact hn g hg q
 have aps := h.apart.s
 have apm := h.apart.m
 have apg := h.apart.g
 refine ⟨⟨hd, by rw [e]; exact h.box.chg c (hm _ (Yw.mem_foot.2 (.inl rfl)) (fun e => aps (by rw [e]; exact List.mem_cons_of_mem _ List.mem_cons_self))), by rw [e]; exact h.man.chg c (hm _ (Yw.mem_foot.2 (.inr (.inl rfl))) (fun e => apm (by rw [e]; exact List.mem_cons_self))), ?_, h.pout, by rw [e]; exact hl, h.mem.chg c (fun g hg => hm g (Yw.mem_foot.2 ?_) (fun e => apg (by rw [← e]; exact hg))), h.its, h.tabs.step hc2 hf2, h.st.step hc2 hf2, ⟨fun g hg hmm => ?_, aps, apm, apg⟩, h.ng⟩, hc2, hf2⟩
 ·refine ⟨(row_chg c h.row.row (Nat.le_refl _) (fun j hj a ha hmm => ?_)).up c.size, h.row.nc, h.row.cm, h.row.nb, fun j hj a ha => ⟨(h.row.away j hj a ha).1, fun hmm => ?_⟩⟩
  ·rcases List.mem_cons.1 hmm with q | q
   ·exact h.pout j hj a ha (by rw [q]; exact hgf)
   ·exact (h.row.away j hj a ha).2 q
  ·rcases hf _ hmm with h1 | h1
   ·exact (h.row.away j hj a ha).2 h1
   ·obtain ⟨b, e, q1, _⟩ := h.row.row.cell j hj
    rw [ha] at e
    injection e with e
    subst e
    omega
 ·rcases List.mem_cons.1 hg with rfl | hg
  ·exact .inr (.inr (.inr (.inl rfl)))
  ·exact .inr (.inr (.inr (.inr hg)))
 ·rcases hf g hmm with h1 | h1
  ·exact hn g hg h1
  ·have := h.ylt g hg
   omega
theorem SvAt.mput (h : SvAt w X S Y V) {ns' : List Nd} (hm : MmAt w1 Y.mm Y.L ns') (c : Chg (Y.mm :: skF Y.L Y.ns) w w1) (hf : ∀ g ∈ skF Y.L ns', g ∈ skF Y.L Y.ns ∨ w.heap.size ≤ g) : SvAt w1 X S { Y with ns := ns' } { V with mem := Go.Proofs.YtdkjoigpahafmaaGreatDoor.its ns' } ∧ Chg (XY X Y) w w1 ∧ ∀ g ∈ XY X { Y with ns := ns' }, g ∈ XY X Y ∨ w.heap.size ≤ g := by
 have hin : ∀ g ∈ Y.mm :: skF Y.L Y.ns, g ∈ Y.foot := fun g hg => Yw.mem_foot.2 (by
  rcases List.mem_cons.1 hg with rfl | hg
  ·exact .inr (.inr (.inr (.inl rfl)))
  ·exact .inr (.inr (.inr (.inr hg))))
 have hc2 : Chg (XY X Y) w w1 := c.mono fun g hg => .inl (List.mem_append_right _ (hin g hg))
 have hmf : ∀ g ∈ Y.mm :: skF Y.L ns', g ∈ Y.mm :: skF Y.L Y.ns ∨ w.heap.size ≤ g := fun g hg => by
  rcases List.mem_cons.1 hg with rfl | hg
  ·exact .inl List.mem_cons_self
  ·exact (hf g hg).imp (List.mem_cons_of_mem _) id
 have hf1 : ∀ g ∈ ({ Y with ns := ns' } : Yw).foot, g ∈ Y.foot ∨ w.heap.size ≤ g := fun g hg => by
  rcases Yw.mem_foot.1 hg with q | q | q | q | q
  ·exact .inl (Yw.mem_foot.2 (.inl q))
  ·exact .inl (Yw.mem_foot.2 (.inr (.inl q)))
  ·exact .inl (Yw.mem_foot.2 (.inr (.inr (.inl q))))
  ·exact .inl (Yw.mem_foot.2 (.inr (.inr (.inr (.inl q)))))
  ·rcases hf g q with q | q
   ·exact .inl (Yw.mem_foot.2 (.inr (.inr (.inr (.inr q)))))
   ·exact .inr q
 have hf2 : ∀ g ∈ XY X { Y with ns := ns' }, g ∈ XY X Y ∨ w.heap.size ≤ g := fun g hg => by
  rcases List.mem_append.1 hg with q | q
  ·exact .inl (List.mem_append_left _ q)
  ·exact (hf1 g q).imp (List.mem_append_right _) id
 have aps := h.apart.s
 have apm := h.apart.m
 have apg := h.apart.g
 have hs : Y.s ∉ Y.mm :: skF Y.L Y.ns := fun hm => aps (List.mem_cons_of_mem _ (List.mem_cons_of_mem _ hm))
 have hmm : Y.m ∉ Y.mm :: skF Y.L Y.ns := fun hm => apm (List.mem_cons_of_mem _ hm)
 have old : ∀ x, x ∉ Y.mm :: skF Y.L Y.ns → x < w.heap.size → x ∉ Y.mm :: skF Y.L ns' := fun x h1 h2 h3 => by
  rcases hmf x h3 with q | q
  ·exact h1 q
  ·omega
 have l1 := h.box.lt
 have l2 := h.man.lt
 have l3 := h.log.lt
 refine ⟨⟨h.dm.chg c (fun g hg => ⟨h.apart.x g (hin g hg), h.ng g (hin g hg)⟩), h.box.chg c hs, h.man.chg c hmm, ?_, ?_, h.log.chg c apg, hm, rfl, h.tabs.step hc2 hf2, h.st.step hc2 hf2, ⟨fun g hg hx => ?_, ?_, ?_, old _ apg l3⟩, fun g hg => ?_⟩, hc2, hf2⟩
 ·exact ⟨(row_chg c h.row.row (Nat.le_refl _) (fun j hj a ha hx => h.pout j hj a ha (hin _ hx))).up c.size, h.row.nc, h.row.cm, h.row.nb, h.row.away⟩
 ·intro j hj a ha hx
  rcases hf1 _ hx with q | q
  ·exact h.pout j hj a ha q
  ·obtain ⟨b, e, q1, _⟩ := h.row.row.cell j hj
   rw [ha] at e
   injection e with e
   subst e
   omega
 ·rcases hf1 g hg with q | q
  ·exact h.apart.x g q hx
  ·have := h.dm.dk.lt g hx
   omega
 ·intro hx
  rcases List.mem_cons.1 hx with q | q
  ·exact aps (by rw [q]; exact List.mem_cons_self)
  ·rcases List.mem_cons.1 q with q | q
   ·exact aps (by rw [q]; exact List.mem_cons_of_mem _ List.mem_cons_self)
   ·exact old _ hs l1 q
 ·intro hx
  rcases List.mem_cons.1 hx with q | q
  ·exact apm (by rw [q]; exact List.mem_cons_self)
  ·exact old _ hmm l2 q
 ·rcases hf1 g hg with q | q
  ·exact h.ng g q
  ·have := h.dm.env.base
   omega
theorem sapply_any (h : SvAt w X S Y V) (A : Option Addr) (n c : Nat) (l : List It) (hn : n ≤ 100000) (hr : Row w.heap.size w A n 5 (itc l)) (hA : ∀ a, A = some a → a.block ∉ XY X Y) (hfit : ∀ x ∈ l, x.fit) (hst : Stt V.st) (hsl : V.st.length ≤ 2000) (hsz : V.sz ≤ 1000000000000) (hct : V.ct ≤ 1000000000) (hml : V.mem.length ≤ 400000) (hnm : V.nm.length ≤ 1000) :
  Calls Tryz.prog 9 #[.pointer (some ⟨Y.s, 0, none⟩), .slice A n c] w (SvPost X Y w (St.apply S V l)) := by
 have hll := hr.itlen
 obtain ⟨R, hR⟩ : ∃ R, R = St.apply S V l := ⟨_, rfl⟩
 have hR0 := hR
 unfold St.apply at hR
 rw [← hR0]
 clear hR0
 have hxlt := h.lt
 have c10 := h.box.cell 10
 have c5 := h.box.cell 5
 simp only [Yw.cells, gE0, gE1] at c10 c5
 have hal := iall_any A n c l w (by omega) hr
 obtain ⟨ab, hab⟩ : ∃ ab, ab = l.all It.ok := ⟨_, rfl⟩
 have HH := Lib.hid h
 have HLL := Lib.hid hll
 have HX := Lib.hid hxlt
 have HROW := Lib.hid hr
 cases ho : V.only with
 | true =>
  rw [if_pos ho] at hR
  rw [ho] at c10
  have HZ : Hid (SvPost X Y w R (.returned (.int .i64 14)) w) := Lib.hid (by rw [hR]; exact ⟨rfl, SvUpd.refl h⟩)
  clear hR ho h hr hxlt hal hab hll
  go_enter Tryz.func9, Tryz.ntmps9
  go_wp2
  go_ret
  exact HZ.out
 | false =>
 rw [if_neg (by simp [ho])] at hR
 rw [ho] at c10
 by_cases h0 : n = 0
 ·have hl0 : l = [] := List.length_eq_zero_iff.1 (by omega)
  rw [if_pos (.inl hl0)] at hR
  have HZ : Hid (SvPost X Y w R (.returned (.int .i64 1)) w) := Lib.hid (by rw [hR]; exact ⟨rfl, SvUpd.refl h⟩)
  subst h0
  clear hR ho h hr hxlt hal hab hll hl0
  go_enter Tryz.func9, Tryz.ntmps9
  go_wp2
  go_ret
  exact HZ.out
 have e0 : ((n : Int) == 0) = false := by simp; omega
 have hl0 : l ≠ [] := fun e => by rw [e] at hll; simp at hll; omega
 rw [← hab] at hal
 have HAL := Lib.hid hal
 cases ab with
 | false =>
  rw [if_pos (.inr hab.symm)] at hR
  have HZ : Hid (∀ w', Below w.heap.size w w' → SvPost X Y w R (.returned (.int .i64 1)) w') := Lib.hid (fun w' hb => by rw [hR]; exact ⟨rfl, SvUpd.same h hb⟩)
  clear hR ho h hr hxlt hal hab hll hl0
  go_enter Tryz.func9, Tryz.ntmps9
  go_wp2_with fail
  with_reducible refine HAL.out.mono ?_
  rintro e w2 ⟨rfl, hb2⟩
  have HY := Lib.hid (HZ.out _ hb2)
  clear hb2 HZ
  go_wp2
  go_ret
  exact HY.out
 | true =>
 rw [if_neg (by intro q; rcases q with q | q; exact hl0 q; rw [← hab] at q; cases q)] at hR
 by_cases h1 : 1000 < n
 ·rw [if_pos (by omega)] at hR
  have HZ : Hid (∀ w', Below w.heap.size w w' → SvPost X Y w R (.returned (.int .i64 2)) w') := Lib.hid (fun w' hb => by rw [hR]; exact ⟨rfl, SvUpd.same h hb⟩)
  have e1 : ((1000 : Int) < (n : Int)) = True := eq_true (by omega)
  clear hR ho h hr hxlt hal hab hll hl0
  go_enter Tryz.func9, Tryz.ntmps9
  go_wp2_with fail
  with_reducible refine HAL.out.mono ?_
  rintro e w2 ⟨rfl, hb2⟩
  have HY := Lib.hid (HZ.out _ hb2)
  clear hb2 HZ
  go_wp2
  go_ret
  exact HY.out
 rw [if_neg (by omega)] at hR
 have e1 : ((1000 : Int) < (n : Int)) = False := eq_false (by omega)
 have hit := h.st.now
 have hjn := fun (W : World) (hb : Below w.heap.size w W) => join_any Y.A.a Y.A.n Y.A.c V.st A n c l W (by have := h.alen; omega) hit.nc hit.cm hst ((hit.row.below hb).up hb.size) ((hr.below hb).up hb.size)
 have c5w : ∀ W, Below w.heap.size w W → W.cell? ⟨Y.s, 5, none⟩ = some (.slice Y.A.a Y.A.n Y.A.c) := fun W hb => (hb.cell (p := ⟨Y.s, 5, none⟩) h.box.lt).trans c5
 obtain ⟨J, hJ⟩ : ∃ J, J = joins V.st l := ⟨_, rfl⟩
 rw [← hJ] at hR hjn
 have HJN := Lib.hid hjn
 have HC5 := Lib.hid c5w
 have HR := Lib.hid hR
 have HJ := Lib.hid hJ
 have HAB := Lib.hid hab
 have HFS := Lib.hid h.ylt
 clear hR ho h hr hxlt hal hab hll hl0 hit hjn c5w hJ c5
 go_enter Tryz.func9, Tryz.ntmps9
 go_wp2_with fail
 with_reducible refine HAL.out.mono ?_
 rintro e w2 ⟨rfl, hb2⟩
 have c5 := HC5.out w2 hb2
 go_wp2_with fail
 with_reducible refine (HJN.out w2 hb2).mono ?_
 rintro e w3 ⟨A3, k3, rfl, hk3, hi3, hb3⟩
 have hs3 := (HH.out.below hb2).below hb3
 have hb23 := later_ hb2 hb3
 have hfx3 : Fixed (XY X Y) w3 fun W => Its 0 W A3 k3 k3 J := fun W cW => ⟨(row_chg cW hi3.row (Nat.le_refl _) (fun j _ a ha hm => by
  have := hi3.low a ha
  have := HX.out _ hm
  have := hb2.size
  omega)).up cW.size, hi3.nc, hi3.cm, fun _ _ => Nat.zero_le _⟩
 have HK3 := Lib.hid hk3
 have HS3 := Lib.hid hs3
 have HF3 := Lib.hid hfx3
 have HB := Lib.hid hb23
 clear hk3 hs3 hfx3 hi3 hb3 hb2 hb23 c5 HJN HAL HC5
 have hR := HR.out
 by_cases h2 : 1500 < k3
 ·rw [if_pos (by rw [← HK3.out]; exact h2)] at hR
  have e2 : ((1500 : Int) < (k3 : Int)) = True := eq_true (by omega)
  have HZ : Hid (SvPost X Y w R (.returned (.int .i64 2)) w3) := Lib.hid (by rw [hR]; exact ⟨rfl, SvUpd.same HH.out HB.out⟩)
  clear hR h2
  go_wp2
  go_ret
  exact HZ.out
 rw [if_neg (by rw [← HK3.out]; exact h2)] at hR
 have e2 : ((1500 : Int) < (k3 : Int)) = False := eq_false (by omega)
 have c2 := HS3.out.box.cell 2
 simp only [Yw.cells, gE0, gE1] at c2
 have hlp := lput_any X S Y.g V.nm V.sz V.ct A n c l w3 hnm HS3.out.dm HS3.out.log (HS3.out.apart.x _ (Yw.mem_foot.2 (.inr (.inr (.inl rfl))))) (HS3.out.ng _ (Yw.mem_foot.2 (.inr (.inr (.inl rfl))))) hsz hct (by omega) (by omega) ((HROW.out.below HB.out).up HB.out.size) (fun x hx => ⟨by have := HAB.out; rw [eq_comm, List.all_eq_true] at this; exact this x hx, hfit x hx⟩)
 obtain ⟨a, ha⟩ : ∃ a, a = S.append V.nm (Lg.batch l) := ⟨_, rfl⟩
 rw [← ha] at hlp hR
 obtain ⟨S4, er4⟩ := a
 unfold LpPost at hlp
 simp only at hlp hR
 have HLP := Lib.hid hlp
 have HR2 := Lib.hid hR
 clear hlp hR ha h2 HR
 go_wp2_with fail
 with_reducible refine HLP.out.mono ?_
 rintro e w4 ⟨rfl, X4, e4, hd4, hc4, hf4, hl4⟩
 by_cases h4 : er4 = 0
 ·subst h4
  rw [if_pos rfl] at hl4
  obtain ⟨hs4, hc4x, hf4x⟩ := HS3.out.put e4 hd4 hc4 hf4 hl4
  have c3 := hs4.box.cell 3
  simp only [Yw.cells, gE0, gE1] at c3
  have hr4 := (row_chg hc4x ((HROW.out.below HB.out).up HB.out.size) (Nat.le_refl _) (fun j _ a ha => hA a ha)).up hc4x.size
  have hin : ∀ g ∈ Y.mm :: skF Y.L Y.ns, g ∈ Y.foot := fun g hg => Yw.mem_foot.2 (by
   rcases List.mem_cons.1 hg with rfl | hg
   ·exact .inr (.inr (.inr (.inl rfl)))
   ·exact .inr (.inr (.inr (.inr hg))))
  have hma := mmapply_any hs4.mem A n c l (by omega) (by rw [hs4.its]; exact hml) hr4 (fun a ha => ⟨fun hm => hA a ha (List.mem_append_right _ (hin _ (by rw [hm]; exact List.mem_cons_self))), fun hm => hA a ha (List.mem_append_right _ (hin _ (List.mem_cons_of_mem _ hm)))⟩) HAB.out.symm
  have HS4 := Lib.hid hs4
  have HMA := Lib.hid hma
  have HC4 := Lib.hid (And.intro hc4x hf4x)
  have HE4 := Lib.hid e4
  clear hs4 hma hr4 hc4x hf4x hc4 hf4 hd4 hl4 e4 hin HLP
  go_wp2_with fail
  with_reducible refine HMA.out.mono ?_
  rintro e w5 ⟨ns', rfl, hm5, hi5, hc5, hf5⟩
  obtain ⟨hs5, hc5x, hf5x⟩ := HS4.out.mput hm5 hc5 hf5
  have hfx5 := (HF3.out.step HC4.out.1 HC4.out.2).step hc5x hf5x
  have hset := sset_any hs5 A3 k3 k3 J hfx5
  have hc := (((Chg.of_below HB.out (XY X Y)).trans HC4.out.1 (fun g hg => .inl hg)).trans hc5x (fun g hg => (HC4.out.2 g hg).imp id (Nat.le_trans HB.out.size)))
  have hfz : ∀ g ∈ XY X4 { Y with ns := ns' }, g ∈ XY X Y ∨ w.heap.size ≤ g := fun g hg => by
   rcases hf5x g hg with q | q
   ·exact (HC4.out.2 g q).imp id (Nat.le_trans HB.out.size)
   ·exact .inr (Nat.le_trans (Nat.le_trans HB.out.size HC4.out.1.size) q)
  have HSET := Lib.hid hset
  have HC := Lib.hid hc
  have HFZ := Lib.hid hfz
  have HI5 := Lib.hid (show its ns' = l.foldl wput V.mem by rw [hi5, HS4.out.its])
  clear hs5 hfx5 hset hc hfz hm5 hi5 hc5 hf5 hc5x hf5x HMA c3 c2
  go_wp2_with fail
  with_reducible refine HSET.out.mono ?_
  rintro e w6 ⟨rfl, hs6, hc6⟩
  have hz : SvPost X Y w R (.returned (.int .i64 0)) w6 := by
   rw [HR2.out, if_neg (by simp)]
   refine ⟨rfl, X4, { Y with ns := ns', A := ⟨A3, k3, k3⟩ }, HE4.out, rfl, ?_, HC.out.trans hc6 HFZ.out, HFZ.out⟩
   rw [← HI5.out]
   exact hs6
  have HZ := Lib.hid hz
  clear hz hs6 hc6 HSET
  go_wp2
  go_ret
  exact HZ.out
 ·have e3 : ((er4 : Int) == 0) = false := by simp; omega
  rw [if_neg h4] at hl4
  obtain ⟨hs4, hc4x, hf4x⟩ := HS3.out.put e4 hd4 hc4 hf4 hl4
  have hz : SvPost X Y w R (.returned (.int .i64 (er4 : Int))) w4 := by
   rw [HR2.out, if_pos h4]
   exact ⟨rfl, X4, Y, e4, rfl, hs4, (Chg.of_below HB.out (XY X Y)).trans hc4x (fun g hg => .inl hg), fun g hg => (hf4x g hg).imp id (Nat.le_trans HB.out.size)⟩
  have HZ := Lib.hid hz
  clear hz hs4 hc4x hf4x hc4 hf4 hd4 hl4 e4 HLP h4
  go_wp2
  go_ret
  exact HZ.out
end
section
open Go Go.RowKit
namespace Sonce
open Once
theorem slow_any (b : Nat) (pl : Addr) (hpb : ¬ b = pl.block) (x3 : Value) (w : World) (hp : w.cell? pl = some (.pointer (some ⟨b, 0, none⟩)))
  (h0 : w.cell? ⟨b, 7, none⟩ = some (.int .u32 0)) (h1 : w.cell? ⟨b, 8, none⟩ = some (.int .i32 0)) (h3 : w.cell? ⟨b, 10, none⟩ = some x3)
  (f0 : w.frozen? ⟨b, 7, none⟩ = false) (f1 : w.frozen? ⟨b, 8, none⟩ = false) (f3 : w.frozen? ⟨b, 10, none⟩ = false) :
  Calls Tryz.prog 253 #[.pointer (some ⟨b, 7, none⟩), .func (.func 223) #[] #[.pointer (some pl)]] w fun e w' => e = .returned (.tuple #[]) ∧
   w' = (((w.setCell ⟨b, 8, none⟩ (.int .i32 1)).setCell ⟨b, 10, none⟩ (.bool true)).drew.setCell ⟨b, 7, none⟩ (.int .u32 1)).setCell ⟨b, 8, none⟩ (.int .i32 0) := by
 have hl := run_call_load (P := Tryz.prog) Tryz.func274 (by kernel_rfl) (by kernel_rfl) (by kernel_rfl) .u32 (by kernel_rfl) (w := w.setCell ⟨b, 8, none⟩ (.int .i32 1)) (a := ⟨b, 7, none⟩) (x := 0) ((World.cell?_setCell_other _ ⟨b, 8, none⟩ ⟨b, 7, none⟩ _ (by simp)).trans h0)
 have hp1 : (w.setCell ⟨b, 8, none⟩ (.int .i32 1)).cell? pl = some (.pointer (some ⟨b, 0, none⟩)) := (World.cell?_setCell_other _ ⟨b, 8, none⟩ pl _ (fun h => hpb (by rw [← h]))).trans hp
 have h31 : (w.setCell ⟨b, 8, none⟩ (.int .i32 1)).cell? ⟨b, 10, none⟩ = some x3 := (World.cell?_setCell_other _ ⟨b, 8, none⟩ ⟨b, 10, none⟩ _ (by simp)).trans h3
 have hnot : ∀ (x : Bool) (w : World), (Op.unary .not (.bool x)).run Tryz.prog w = .ok (.bool (!x)) w := fun _ _ => rfl
 go_enter_defers Tryz.func253, Tryz.ntmps253
 go_wp2_with (go_at_call 275; refine (lock_free ⟨b, 8, none⟩ _ (by go_simp) (by go_simp)).mono ?_; rintro e w' ⟨rfl, rfl⟩)
 go_wp2
 go_end0
 go_wp2
 -- THE DOOR: two deferred calls, the last laid first
 refine leaves_cons (f := 277) (args := #[.pointer (some ⟨b, 7, none⟩), .bool true]) (by simp) (by simp [go_sem]) ?_
 refine (store_deferred ⟨b, 7, none⟩ (.int .u32 0) .returning _ ?_ (by simp [f0])).mono ?_
 ·exact (World.cell?_setCell_other _ ⟨b, 10, none⟩ ⟨b, 7, none⟩ _ (by simp)).trans ((World.cell?_setCell_other _ ⟨b, 8, none⟩ ⟨b, 7, none⟩ _ (by simp)).trans h0)
 rintro e u' w'' ⟨rfl, rfl, rfl⟩
 refine leaves_cons (f := 276) (args := #[.pointer (some ⟨b, 8, none⟩)]) (by simp [settle]) (by simp [go_sem]) ?_
 refine (unlock_deferred ⟨b, 8, none⟩ _ _ ?_ (by simp [f1])).mono ?_
 ·refine (World.cell?_setCell_other _ ⟨b, 7, none⟩ ⟨b, 8, none⟩ _ (by simp)).trans ?_
  rw [World.cell?_drew]
  exact (World.cell?_setCell_other _ ⟨b, 10, none⟩ ⟨b, 8, none⟩ _ (by simp)).trans (World.cell?_setCell_same w _ _ h1)
 rintro e u' w'' ⟨rfl, rfl, rfl⟩
 simp [Leaves, settle, results, Tryz.results253]
theorem do_first (b : Nat) (pl : Addr) (hpb : ¬ b = pl.block) (x3 : Value) (w : World) (hp : w.cell? pl = some (.pointer (some ⟨b, 0, none⟩)))
  (h0 : w.cell? ⟨b, 7, none⟩ = some (.int .u32 0)) (h1 : w.cell? ⟨b, 8, none⟩ = some (.int .i32 0)) (h3 : w.cell? ⟨b, 10, none⟩ = some x3)
  (f0 : w.frozen? ⟨b, 7, none⟩ = false) (f1 : w.frozen? ⟨b, 8, none⟩ = false) (f3 : w.frozen? ⟨b, 10, none⟩ = false) :
  Calls Tryz.prog 222 #[.pointer (some ⟨b, 7, none⟩), .func (.func 223) #[] #[.pointer (some pl)]] w fun e w' => e = .returned (.tuple #[]) ∧ w' = ((((w.setCell ⟨b, 8, none⟩ (.int .i32 1)).setCell ⟨b, 10, none⟩ (.bool true)).drew.setCell ⟨b, 7, none⟩ (.int .u32 1)).setCell ⟨b, 8, none⟩ (.int .i32 0)) := by
 have hl := run_call_load (P := Tryz.prog) Tryz.func274 (by kernel_rfl) (by kernel_rfl) (by kernel_rfl) .u32 (by kernel_rfl) h0
 have hnot : ∀ (x : Bool) (w : World), (Op.unary .not (.bool x)).run Tryz.prog w = .ok (.bool (!x)) w := fun _ _ => rfl
 go_enter Tryz.func222, Tryz.ntmps222
 go_wp2_with (first | (go_at_call 253; refine (slow_any b pl hpb x3 _ hp h0 h1 h3 f0 f1 f3).mono ?_; rintro e w' ⟨rfl, rfl⟩) | (go_at_call 252; go_in))
 go_end0
 exact ⟨rfl, rfl⟩
end Sonce
end
section
open Go Go.RowKit Go.Lib Go.Shelf
variable {w w1 w2 : World} {X X1 X2 : Dw} {S S1 S2 : Sd} {Y Y1 Y2 : Yw} {V V1 V2 : Sv}
theorem number_rng (s k : List UInt8) (hk : k = Mn.kLog ∨ k = Mn.kTab) : 0 ≤ (Mn.number s k).getD 0 ∧ (Mn.number s k).getD 0 ≤ 1073741824 := by
 cases h : Mn.number s k with
 | none => exact ⟨by simp, by simp⟩
 | some v =>
  have hs : s ≠ [] := fun e => by
   subst e
   rcases hk with rfl | rfl <;>
   ·unfold Mn.number at h
    rw [if_neg (by decide)] at h
    cases h
  have := Mn.number_fits h hs
  exact ⟨by simp; omega, by simp; omega⟩
theorem greatest_rng (k : List UInt8) (hk : k = Mn.kLog ∨ k = Mn.kTab) : ∀ (l : List (List UInt8)) (a : Int), 0 ≤ a → a ≤ 1073741824 → 0 ≤ l.foldl (fun m s => max m ((Mn.number s k).getD 0)) a ∧ l.foldl (fun m s => max m ((Mn.number s k).getD 0)) a ≤ 1073741824
 | [], a, h1, h2 => ⟨h1, h2⟩
 | s :: r, a, h1, h2 => by
  obtain ⟨h3, h4⟩ := number_rng s k hk
  simp only [List.foldl_cons]
  exact greatest_rng k hk r _ (by omega) (by omega)
theorem snumber_any (h : SvAt w X S Y V) :
  Calls Tryz.prog 171 #[.pointer (some ⟨Y.s, 0, none⟩)] w fun e w' => e = .returned (if 1073741824 < St.number S then .tuple #[.int .i64 0, .int .i64 65] else .tuple #[.int .i64 (St.number S), .int .i64 0]) ∧ Below w.heap.size w w' := by
 have hg := fun (k : List UInt8) (hk : k.length ≤ 1000) (W : World) (hb : Below w.heap.size w W) => greatest_any X S (str k) (by rw [str_size]; exact hk) W (h.dm.below hb)
 have hg1 := hg Mn.kLog (by decide)
 have hg2 := hg Mn.kTab (by decide)
 rw [list_str] at hg1 hg2
 rw [show str Mn.kLog = ({ data := #[108, 111, 103] } : ByteArray) from rfl] at hg1
 rw [show str Mn.kTab = ({ data := #[116, 97, 98] } : ByteArray) from rfl] at hg2
 have hr1 : 0 ≤ Mn.greatest S.list Mn.kLog ∧ Mn.greatest S.list Mn.kLog ≤ 1073741824 := greatest_rng Mn.kLog (.inl rfl) S.list 0 (by omega) (by omega)
 have hr2 : 0 ≤ Mn.greatest S.list Mn.kTab ∧ Mn.greatest S.list Mn.kTab ≤ 1073741824 := greatest_rng Mn.kTab (.inr rfl) S.list 0 (by omega) (by omega)
 unfold St.number
 generalize Mn.greatest S.list Mn.kLog = a at *
 generalize Mn.greatest S.list Mn.kTab = b at *
 obtain ⟨c, hc⟩ : ∃ c, c = max a b := ⟨_, rfl⟩
 have hcr : 0 ≤ c ∧ c ≤ 1073741824 := by omega
 rw [← hc]
 have H1 := Lib.hid hg1
 have H2 := Lib.hid hg2
 have HX := Lib.hid h.box
 have HC := Lib.hid hc
 clear hg hg1 hg2 h hc
 by_cases hlt : 1073741824 < c + 1
 all_goals
 ·simp only [hlt, if_true, if_false]
  go_enter Tryz.func171, Tryz.ntmps171
  go_wp2_with fail
  refine wp_region_held_drew (S := fun w' => Below w.heap.size w w') rfl (below_drew (Below.refl _ _)) (fun hSw => ?_)
  refine wpT (i := 0) (v := ?_) ?_ hSw ?_
  rotate_left
  ·(intro w hSw; (have k0 := (HX.out.below hSw).cell 0; simp only [Yw.cells, gE0, gE1] at k0); go_simp; try (with_reducible rfl))
  go_simp
  refine wpT (i := 1) (v := ?_) ?_ hSw ?_
  rotate_left
  ·(intro w hSw; (have k0 := (HX.out.below hSw).cell 0; simp only [Yw.cells, gE0, gE1] at k0); go_simp; try (with_reducible rfl))
  go_simp
  refine wpT (i := 2) (v := ?_) ?_ hSw ?_
  rotate_left
  ·(intro w hSw; (have k0 := (HX.out.below hSw).cell 0; simp only [Yw.cells, gE0, gE1] at k0); go_simp; try (with_reducible rfl))
  go_simp
  refine wpT (i := 3) (v := ?_) ?_ hSw ?_
  rotate_left
  ·(intro w hSw; (have k0 := (HX.out.below hSw).cell 0; simp only [Yw.cells, gE0, gE1] at k0); go_simp; try (with_reducible rfl))
  go_simp
  refine wpT (i := 5) (v := ?_) ?_ hSw ?_
  rotate_left
  ·(intro w hSw; (have k0 := (HX.out.below hSw).cell 0; simp only [Yw.cells, gE0, gE1] at k0); go_simp; try (with_reducible rfl))
  go_simp
  refine wpT (i := 6) (v := ?_) ?_ hSw ?_
  rotate_left
  ·(intro w hSw; (have k0 := (HX.out.below hSw).cell 0; simp only [Yw.cells, gE0, gE1] at k0); go_simp; try (with_reducible rfl))
  go_simp
  refine wpT (i := 7) (v := ?_) ?_ hSw ?_
  rotate_left
  ·(intro w hSw; (have k0 := (HX.out.below hSw).cell 0; simp only [Yw.cells, gE0, gE1] at k0); go_simp; try (with_reducible rfl))
  go_simp
  refine wpT (i := 8) (v := ?_) ?_ hSw ?_
  rotate_left
  ·(intro w hSw; (have k0 := (HX.out.below hSw).cell 0; simp only [Yw.cells, gE0, gE1] at k0); go_simp; try (with_reducible rfl))
  go_simp
  refine wpAnyH_ready (rs := [4]) (by kernel_rfl) (by simp) ?_
  refine AllReadyH.cons rfl (fun K hK => ?_) AllReadyH.nil
  go_simp
  with_reducible refine (H1.out _ hSw).mono ?_
  rintro e w3 ⟨rfl, hb3⟩
  go_simp
  refine hK.out _ _ (later_ hSw hb3) (fun hSn => ?_)
  clear hK K hSw
  have hSw := hSn
  clear hSn
  go_simp
  refine wpAnyH_ready (rs := [9]) (by kernel_rfl) (by simp) ?_
  refine AllReadyH.cons rfl (fun K hK => ?_) AllReadyH.nil
  go_simp
  with_reducible refine (H2.out _ hSw).mono ?_
  rintro e w4 ⟨rfl, hb4⟩
  go_simp
  refine hK.out _ _ (later_ hSw hb4) (fun hSn => ?_)
  clear hK K hSw
  have hSw := hSn
  clear hSn
  go_simp
  refine wpAnyH_ready (rs := [10]) (by kernel_rfl) (by simp) ?_
  refine AllReadyH.cons rfl (fun K hK => ?_) AllReadyH.nil
  skip
  go_simp
  refine hK.out _ _ hSw (fun hSn => ?_)
  clear hK K hSw
  have hSw := hSn
  clear hSn
  go_simp
  refine wpT (i := 11) (v := ?_) ?_ hSw ?_
  rotate_left
  ·(intro w hSw; (have k0 := (HX.out.below hSw).cell 0; simp only [Yw.cells, gE0, gE1] at k0); go_simp; try (with_reducible rfl))
  go_simp
  refine wpT (i := 12) (v := ?_) ?_ hSw ?_
  rotate_left
  ·(intro w hSw; (have k0 := (HX.out.below hSw).cell 0; simp only [Yw.cells, gE0, gE1] at k0); go_simp; try (with_reducible rfl))
  go_simp
  refine wpAnyH_done (by kernel_rfl) ?_ _
  have hw : IntKind.i64.wrap (c + 1) = c + 1 := IntWalk.i64_in _ (by omega)
  rw [← HC.out, hw]
  have hbz := later_ (later_ (below_drew (Below.refl _ _)) hb3) hb4
  clear hSw hb3 hb4 H1 H2 HX
  go_wp2
  go_ret2
  exact ⟨rfl, hbz⟩
theorem sclose_any (h : SvAt w X S Y V) (er : Nat) :
  Calls Tryz.prog 177 #[.pointer (some ⟨Y.s, 0, none⟩), .int .i64 (er : Int)] w fun e w' => e = .returned (.int .i64 (er : Int)) ∧ SvAt w' X S Y { V with only := true } ∧ Chg (XY X Y) w w' := by
 have hbA := (Below.refl w.heap.size w).alloc (Nat.le_refl _) (.cells #[.pointer (some ⟨Y.s, 0, none⟩)] 30)
 have hlt := h.box.lt
 have h1 := h.below hbA
 have hp : (w.alloc (.cells #[.pointer (some ⟨Y.s, 0, none⟩)] 30)).cell? ⟨w.heap.size, 0, none⟩ = some (.pointer (some ⟨Y.s, 0, none⟩)) := by simp
 obtain ⟨W, hW⟩ : ∃ W, W = w.alloc (.cells #[.pointer (some ⟨Y.s, 0, none⟩)] 30) := ⟨_, rfl⟩
 rw [← hW] at hbA h1 hp
 have HV := Lib.hid hW
 clear hW
 have c7 := h1.box.cell 7
 have c8 := h1.box.cell 8
 have c10 := h1.box.cell 10
 simp only [Yw.cells, gE0, gE1] at c7 c8 c10
 have hmf : ∀ (fn : Fn) (first cap : Array Value) (w : World), (Instr.makeFunc fn first cap).run Tryz.prog w = .ok (.func fn first cap) w := fun _ _ _ _ => rfl
 cases hb : V.only with
 | false =>
  rw [hb] at c7 c10
  simp only [Bool.false_eq_true, if_false] at c7
  have hdo := Sonce.do_first Y.s ⟨w.heap.size, 0, none⟩ (by simp; omega) _ W hp c7 c8 c10 (h1.box.free 7) (h1.box.free 8) (h1.box.free 10)
  have hbx := ((((h1.box.store 8 (.int .i32 1)).store 10 (.bool true)).drew.store 7 (.int .u32 1)).store 8 (.int .i32 0))
  have hcc : Chg [Y.s] W ((((W.setCell ⟨Y.s, 8, none⟩ (.int .i32 1)).setCell ⟨Y.s, 10, none⟩ (.bool true)).drew.setCell ⟨Y.s, 7, none⟩ (.int .u32 1)).setCell ⟨Y.s, 8, none⟩ (.int .i32 0)) := (((((Chg.refl [Y.s] W).setCell _ (.inl (by simp))).setCell _ (.inl (by simp))).drew).setCell _ (.inl (by simp))).setCell _ (.inl (by simp))
  have hfin := h1.sbox (Y1 := Y) (V1 := { V with only := true }) hcc hbx rfl rfl (h1.st.step (hcc.mono fun g hg => .inl (by rw [List.mem_singleton.1 hg]; exact List.mem_append_right _ (Yw.mem_foot.2 (.inl rfl)))) (fun g hg => .inl hg))
  have HR := Lib.hid (And.intro hfin.1 ((Chg.of_below hbA (XY X Y)).trans hfin.2 (fun g hg => .inl hg)))
  clear hfin hcc hbx hb h h1 hbA c10
  go_enter Tryz.func177, Tryz.ntmps177
  go_wp2_with fail
  rw [← HV.out]
  refine hdo.mono ?_
  rintro e w2 ⟨rfl, rfl⟩
  go_wp2
  go_ret
  exact ⟨rfl, HR.out⟩
 | true =>
  rw [hb] at c7
  simp only [if_true] at c7
  have hdo := Once.do_done ⟨Y.s, 7, none⟩ 1 (by omega) (.func (.func 223) #[] #[.pointer (some ⟨w.heap.size, 0, none⟩)]) W c7
  have e : ({ V with only := true } : Sv) = V := by cases V; simp at hb; simp [hb]
  have HR := Lib.hid (And.intro (show SvAt W X S Y { V with only := true } by rw [e]; exact h1) (Chg.of_below hbA (XY X Y)))
  clear hb h h1 hbA c10 e
  go_enter Tryz.func177, Tryz.ntmps177
  go_wp2_with fail
  rw [← HV.out]
  refine hdo.mono ?_
  rintro e w2 ⟨rfl, hw2⟩
  obtain rfl := hw2.symm
  go_wp2
  go_ret
  exact ⟨rfl, HR.out⟩
end
section
open Go Go.RowKit Go.Lib Go.Shelf
variable {w w1 w2 : World} {X X1 X2 : Dw} {S S1 S2 : Sd} {Y Y1 Y2 : Yw} {V V1 V2 : Sv}
def SgUpd (X : Dw) (Y : Yw) (w w' : World) (S' : Sd) (V' : Sv) : Prop := ∃ X' P', X'.d = X.d ∧ SvAt w' X' S' { Y with P := P' } V' ∧ Chg (XY X Y) w w' ∧ (∀ g ∈ XY X' Y, g ∈ XY X Y ∨ w.heap.size ≤ g) ∧ (P' = Y.P ∨ ∀ a, P'.a = some a → w.heap.size ≤ a.block)
theorem ssave_any (h : SvAt w X S Y V) (x : Ed) (D : Option Addr) (dm dd : Nat) (A2 : Option Addr) (n2 c2 : Nat) (hdm : dm ≤ 1000000) (hn2 : n2 ≤ 1000000) (hrd : Row w.heap.size w D dm 1 (icells x.drop)) (hra : Row w.heap.size w A2 n2 2 (fcells x.add)) (hvf : V.M.v.files.length ≤ 40)
  (hc0 : V.M.count ≤ 1000000000) (hnl : V.M.name.length ≤ 1000) :
  Calls Tryz.prog 109 #[.pointer (some ⟨Y.s, 0, none⟩), x.val D dm dd A2 n2 c2] w fun e w' => e = .returned (.int .i64 ((St.saved S V x).2.2 : Int)) ∧ SgUpd X Y w w' (St.saved S V x).1 (St.saved S V x).2.1 := by
 have hbA := (Below.refl w.heap.size w).alloc (Nat.le_refl _) (.cells #[.slice D dm dd, .slice A2 n2 c2, .int .i64 x.log, .int .u64 (x.floor : Int), .int .u64 (x.cert : Int), .int .u64 (x.at_ : Int), .int .u64 (x.lease : Int)] 163)
 have hbx := BoxO.new w #[.slice D dm dd, .slice A2 n2 c2, .int .i64 x.log, .int .u64 (x.floor : Int), .int .u64 (x.cert : Int), .int .u64 (x.at_ : Int), .int .u64 (x.lease : Int)] 163
 have h1 := h.below (below_drew hbA)
 have hrd1 := (hrd.below (below_drew hbA)).up hbA.size
 have hra1 := (hra.below (below_drew hbA)).up hbA.size
 have hsz : ∀ g ∈ XY X Y, g < w.heap.size := h.lt
 obtain ⟨W, hW⟩ : ∃ W, W = w.alloc (.cells #[.slice D dm dd, .slice A2 n2 c2, .int .i64 x.log, .int .u64 (x.floor : Int), .int .u64 (x.cert : Int), .int .u64 (x.at_ : Int), .int .u64 (x.lease : Int)] 163) := ⟨_, rfl⟩
 obtain ⟨ge, hge⟩ : ∃ ge, ge = w.heap.size := ⟨_, rfl⟩
 rw [← hge] at hbx
 rw [← hW] at hbA hbx h1 hrd1 hra1
 have hsv := gsave_any x D dm dd A2 n2 c2 hdm hn2 hrd1 hra1 (by rw [h.plen]; exact hvf) hc0 hnl h1.gst
 obtain ⟨R, hR⟩ : ∃ R, R = Gw.save S V.M x := ⟨_, rfl⟩
 have hT : St.saved S V x = (R.1, { V with M := R.2.1, only := V.only || R.2.1.broken }, R.2.2) := by rw [hR]; rfl
 rw [← hR] at hsv
 rw [hT]
 obtain ⟨S1, M1, er⟩ := R
 show Calls Tryz.prog 109 #[.pointer (some ⟨Y.s, 0, none⟩), x.val D dm dd A2 n2 c2] w fun e w' => e = .returned (.int .i64 (er : Int)) ∧ SgUpd X Y w w' S1 { V with M := M1, only := V.only || M1.broken }
 unfold GLeft at hsv
 simp only at hsv
 have hout : Y.s ∉ [Y.m] ++ X.foot ∧ ge ∉ [Y.m] ++ X.foot := ⟨fun hm => by
  rcases List.mem_append.1 hm with q | q
  ·exact h.apart.s (by rw [List.mem_singleton.1 q]; exact List.mem_cons_self)
  ·exact h.apart.x _ (Yw.mem_foot.2 (.inl rfl)) q, fun hm => by
  rcases List.mem_append.1 hm with q | q
  ·have := hsz Y.m (List.mem_append_right _ (Yw.mem_foot.2 (.inr (.inl rfl))))
   have := List.mem_singleton.1 q
   omega
  ·have := hsz _ (List.mem_append_left _ q)
   omega⟩
 have HV := Lib.hid hW
 have HG := Lib.hid hge
 have HSV := Lib.hid hsv
 have HO := Lib.hid hout
 have H1 := Lib.hid h1
 have HB := Lib.hid (Chg.of_below (below_drew hbA) (XY X Y))
 have HS0 : Hid (BoxO W.drew 90 Y.s (Y.cells X.d V) ∧ BoxO W.drew 163 ge #[.slice D dm dd, .slice A2 n2 c2, .int .i64 x.log, .int .u64 (x.floor : Int), .int .u64 (x.cert : Int), .int .u64 (x.at_ : Int), .int .u64 (x.lease : Int)].toList) := Lib.hid ⟨h1.box, hbx⟩
 clear hsv hW hge h h1 hrd hra hrd1 hra1 hbA hbx hout hsz hR hT
 unfold Ed.val at *
 go_enter Tryz.func109, Tryz.ntmps109
 go_wp2_with fail
 rw [← HV.out, ← HG.out]
 refine wp_region_held_drew (S := fun w' => BoxO w' 90 Y.s (Y.cells X.d V) ∧ BoxO w' 163 ge #[.slice D dm dd, .slice A2 n2 c2, .int .i64 x.log, .int .u64 (x.floor : Int), .int .u64 (x.cert : Int), .int .u64 (x.at_ : Int), .int .u64 (x.lease : Int)].toList) rfl HS0.out (fun hSw => ?_)
 refine wpT (i := 0) (v := ?vsv0) ?hsv0 hSw ?ksv0
 case hsv0 => (intro w hSw; (have k1 := hSw.1.cell 1; have e0 := hSw.2.cell 0; have e1 := hSw.2.cell 1; have e2 := hSw.2.cell 2; have e3 := hSw.2.cell 3; have e4 := hSw.2.cell 4; have e5 := hSw.2.cell 5; have e6 := hSw.2.cell 6; simp only [Yw.cells, gE0, gE1] at k1 e0 e1 e2 e3 e4 e5 e6); go_simp; try (with_reducible rfl))
 go_simp
 refine wpT (i := 1) (v := ?vsv1) ?hsv1 hSw ?ksv1
 case hsv1 => (intro w hSw; (have k1 := hSw.1.cell 1; have e0 := hSw.2.cell 0; have e1 := hSw.2.cell 1; have e2 := hSw.2.cell 2; have e3 := hSw.2.cell 3; have e4 := hSw.2.cell 4; have e5 := hSw.2.cell 5; have e6 := hSw.2.cell 6; simp only [Yw.cells, gE0, gE1] at k1 e0 e1 e2 e3 e4 e5 e6); go_simp; try (with_reducible rfl))
 go_simp
 refine wpT (i := 2) (v := ?vsv2) ?hsv2 hSw ?ksv2
 case hsv2 => (intro w hSw; (have k1 := hSw.1.cell 1; have e0 := hSw.2.cell 0; have e1 := hSw.2.cell 1; have e2 := hSw.2.cell 2; have e3 := hSw.2.cell 3; have e4 := hSw.2.cell 4; have e5 := hSw.2.cell 5; have e6 := hSw.2.cell 6; simp only [Yw.cells, gE0, gE1] at k1 e0 e1 e2 e3 e4 e5 e6); go_simp; try (with_reducible rfl))
 go_simp
 refine wpT (i := 3) (v := ?vsv3) ?hsv3 hSw ?ksv3
 case hsv3 => (intro w hSw; (have k1 := hSw.1.cell 1; have e0 := hSw.2.cell 0; have e1 := hSw.2.cell 1; have e2 := hSw.2.cell 2; have e3 := hSw.2.cell 3; have e4 := hSw.2.cell 4; have e5 := hSw.2.cell 5; have e6 := hSw.2.cell 6; simp only [Yw.cells, gE0, gE1] at k1 e0 e1 e2 e3 e4 e5 e6); go_simp; try (with_reducible rfl))
 go_simp
 refine wpT (i := 4) (v := ?vsv4) ?hsv4 hSw ?ksv4
 case hsv4 => (intro w hSw; (have k1 := hSw.1.cell 1; have e0 := hSw.2.cell 0; have e1 := hSw.2.cell 1; have e2 := hSw.2.cell 2; have e3 := hSw.2.cell 3; have e4 := hSw.2.cell 4; have e5 := hSw.2.cell 5; have e6 := hSw.2.cell 6; simp only [Yw.cells, gE0, gE1] at k1 e0 e1 e2 e3 e4 e5 e6); go_simp; try (with_reducible rfl))
 go_simp
 refine wpAnyH_ready (rs := [5]) (by kernel_rfl) (by simp) ?_
 refine AllReadyH.cons rfl (fun K hK => ?_) AllReadyH.nil
 go_simp
 with_reducible refine HSV.out.mono ?_
 rintro e w3 ⟨rfl, P3, X3, h3, hP3⟩
 go_simp
 refine hK.out _ _ ⟨hSw.1.chg h3.acc.c HO.out.1, hSw.2.chg h3.acc.c HO.out.2⟩ (fun hSn => ?_)
 clear hK K hSw
 have hSw := hSn
 clear hSn
 go_simp
 refine wpT (i := 6) (v := ?vsv6) ?hsv6 hSw ?ksv6
 case hsv6 => (intro w hSw; (have k1 := hSw.1.cell 1; have e0 := hSw.2.cell 0; have e1 := hSw.2.cell 1; have e2 := hSw.2.cell 2; have e3 := hSw.2.cell 3; have e4 := hSw.2.cell 4; have e5 := hSw.2.cell 5; have e6 := hSw.2.cell 6; simp only [Yw.cells, gE0, gE1] at k1 e0 e1 e2 e3 e4 e5 e6); go_simp; try (with_reducible rfl))
 go_simp
 refine wpAnyH_done (by kernel_rfl) ?_ _
 obtain ⟨hs, hc3, hf3⟩ := H1.out.gleft h3 hP3
 have c1 := hs.box.cell 1
 simp only [Yw.cells, gE0, gE1] at c1
 have hbk := gmbroken_any X3.d hs.man
 have hd3 := h3.acc.e
 have hcw := HB.out.trans hc3 (fun g hg => .inl hg)
 have hfw : ∀ g ∈ XY X3 { Y with P := P3 }, g ∈ XY X Y ∨ w.heap.size ≤ g := fun g hg => (hf3 g hg).imp id (fun q => Nat.le_trans HB.out.size q)
 have hPw : P3 = Y.P ∨ ∀ a, P3.a = some a → w.heap.size ≤ a.block := hP3.imp id (fun q a ha => Nat.le_trans HB.out.size (q a ha))
 have HPW := Lib.hid hPw
 cases hbr : M1.broken with
 | false =>
  rw [hbr] at hbk
  have hfin : SgUpd X Y w w3 S1 { V with M := M1, only := V.only || M1.broken } := ⟨X3, P3, hd3, by rw [hbr, Bool.or_false]; exact hs, hcw, hfw, hPw⟩
  have HF := Lib.hid hfin
  clear hbr
  have HBK := Lib.hid hbk
  clear hbk hs hc3 hf3 hP3 hSw HS0 HSV H1 hfin hcw hfw hPw h3
  go_wp2_with fail
  refine HBK.out.mono ?_
  rintro e w4 ⟨rfl, rfl⟩
  go_wp2
  go_ret
  exact ⟨rfl, HF.out⟩
 | true =>
  rw [hbr] at hbk
  have hcl := sclose_any hs er
  have HBK := Lib.hid hbk
  have HCL := Lib.hid hcl
  have HC3 := Lib.hid hcw
  have HF3 := Lib.hid hfw
  clear hbk hs hc3 hf3 hP3 hSw HS0 HSV H1 hcl hcw hfw hPw h3
  go_wp2_with fail
  refine HBK.out.mono ?_
  rintro e w4 ⟨rfl, rfl⟩
  go_wp2_with fail
  refine HCL.out.mono ?_
  rintro e w5 ⟨rfl, h5, hc5⟩
  have hfin : SgUpd X Y w w5 S1 { V with M := M1, only := V.only || M1.broken } := ⟨X3, P3, hd3, by rw [hbr, Bool.or_true]; exact h5, HC3.out.trans hc5 HF3.out, HF3.out, HPW.out⟩
  have HF := Lib.hid hfin
  clear hfin h5 hc5 HCL hbr
  go_wp2
  go_ret
  exact ⟨rfl, HF.out⟩
def SvUpdB (B : Nat) (X : Dw) (Y : Yw) (w w1 : World) (S1 : Sd) (V1 : Sv) : Prop := ∃ X1 Y1, X1.d = X.d ∧ Y1.s = Y.s ∧ SvAt w1 X1 S1 Y1 V1 ∧ Chg (XY X Y) w w1 ∧ ∀ g ∈ XY X1 Y1, g ∈ XY X Y ∨ B ≤ g
theorem SvUpd.toB {B : Nat} (h : SvUpd X Y w w1 S V) (hB : B ≤ w.heap.size) : SvUpdB B X Y w w1 S V := let ⟨X1, Y1, a, b, c, d, e⟩ := h; ⟨X1, Y1, a, b, c, d, fun g hg => (e g hg).imp id (Nat.le_trans hB)⟩
theorem SvUpdB.to (h : SvUpdB w.heap.size X Y w w1 S V) : SvUpd X Y w w1 S V := h
theorem SvUpdB.trans {B : Nat} (e1 : X1.d = X.d) (e2 : Y1.s = Y.s) (c : Chg (XY X Y) w w1) (hf : ∀ g ∈ XY X1 Y1, g ∈ XY X Y ∨ w.heap.size ≤ g) (hB : B ≤ w.heap.size) (k : SvUpdB B X1 Y1 w1 w2 S2 V2) : SvUpdB B X Y w w2 S2 V2 := by
 obtain ⟨X2, Y2, e3, e4, h, c2, hf2⟩ := k
 refine ⟨X2, Y2, e3.trans e1, e4.trans e2, h, c.trans c2 hf, fun g hg => ?_⟩
 rcases hf2 g hg with h1 | h1
 ·exact (hf g h1).imp id (Nat.le_trans hB)
 ·exact .inr h1
def Turns (B : Nat) (w : World) (X : Dw) (Y : Yw) (V : Sv) (K : Nat) (capt : Array Value) (F : Sv → Sv) : Prop := ∀ w1 X1 P1 S1 M1 b, X1.d = X.d → Chg (XY X Y) w w1 → (∀ g ∈ XY X1 Y, g ∈ XY X Y ∨ w.heap.size ≤ g) → (P1 = Y.P ∨ ∀ a, P1.a = some a → w.heap.size ≤ a.block) → SvAt w1 X1 S1 { Y with P := P1 } { V with M := M1, only := b } →
 Calls Tryz.prog K capt w1 fun e w' => e = .returned (.tuple #[]) ∧ SvUpdB B X1 { Y with P := P1 } w1 w' S1 (F { V with M := M1, only := b })
theorem sturn_any (h : SvAt w X S Y V) (x : Ed) (D : Option Addr) (dm dd : Nat) (A2 : Option Addr) (n2 c2 : Nat) (hdm : dm ≤ 1000000) (hn2 : n2 ≤ 1000000) (hrd : Row w.heap.size w D dm 1 (icells x.drop)) (hra : Row w.heap.size w A2 n2 2 (fcells x.add)) (hD : ∀ a, D = some a → a.block ∉ XY X Y) (hA : ∀ a, A2 = some a → a.block ∉ XY X Y) (hvf : V.M.v.files.length ≤ 40)
  (hc0 : V.M.count ≤ 1000000000) (hnl : V.M.name.length ≤ 1000) (K : Nat) (capt : Array Value) (F : Sv → Sv) (hF : ∀ args w, (callFunc K args).run Tryz.prog w = .ok (.enter K args) w) {B : Nat} (hB : B ≤ w.heap.size) (hK : Turns B w X Y V K capt F) :
  Calls Tryz.prog 98 #[.pointer (some ⟨Y.s, 0, none⟩), x.val D dm dd A2 n2 c2, .func (.func K) #[] capt] w fun e w' => e = .returned (.int .i64 ((St.turn S V x F).2.2 : Int)) ∧ SvUpdB B X Y w w' (St.turn S V x F).1 (St.turn S V x F).2.1 := by
 have hbA := (Below.refl w.heap.size w).alloc (Nat.le_refl _) (.cells #[.slice D dm dd, .slice A2 n2 c2, .int .i64 x.log, .int .u64 (x.floor : Int), .int .u64 (x.cert : Int), .int .u64 (x.at_ : Int), .int .u64 (x.lease : Int)] 163)
 have hbx := BoxO.new w #[.slice D dm dd, .slice A2 n2 c2, .int .i64 x.log, .int .u64 (x.floor : Int), .int .u64 (x.cert : Int), .int .u64 (x.at_ : Int), .int .u64 (x.lease : Int)] 163
 have h1 := h.below hbA
 have hrd1 := (hrd.below hbA).up hbA.size
 have hra1 := (hra.below hbA).up hbA.size
 have hsz : ∀ g ∈ XY X Y, g < w.heap.size := h.lt
 obtain ⟨ge, hge⟩ : ∃ ge, ge = w.heap.size := ⟨_, rfl⟩
 rw [← hge] at hbx
 generalize hW : w.alloc (.cells #[.slice D dm dd, .slice A2 n2 c2, .int .i64 x.log, .int .u64 (x.floor : Int), .int .u64 (x.cert : Int), .int .u64 (x.at_ : Int), .int .u64 (x.lease : Int)] 163) = W at *
 have hgo : ge ∉ XY X Y := fun hm => by have := hsz _ hm; omega
 have hsd := (Acc.start (F := []) h1.dm).syncDir
 have c0 := h1.box.cell 0
 simp only [Yw.cells, gE0, gE1] at c0
 obtain ⟨R, hR⟩ : ∃ R, R = St.turn S V x F := ⟨_, rfl⟩
 unfold St.turn at hR
 rw [← show R = St.turn S V x F from hR]
 obtain ⟨a, ha⟩ : ∃ a, a = S.syncDir := ⟨_, rfl⟩
 rw [← ha] at hsd hR
 obtain ⟨S1, er⟩ := a
 simp only at hsd hR
 have HG := Lib.hid hge
 have HSD := Lib.hid hsd
 have HR := Lib.hid hR
 have H1 := Lib.hid h1
 have HB := Lib.hid hbA
 have HBX := Lib.hid hbx
 have HROW := Lib.hid (And.intro hrd1 hra1)
 have HK := Lib.hid hK
 have HF := Lib.hid hF
 have HALEN := Lib.hid (show Y.P.n = V.M.v.files.length from h.plen)
 clear hsd hge h h1 hrd hra hrd1 hra1 hbA hbx hsz hR ha hK hF
 unfold Ed.val at *
 go_enter Tryz.func98, Tryz.ntmps98
 go_wp2_with fail
 rw [← HG.out]
 clear hW
 refine HSD.out.mono ?_
 rintro e w1 ⟨rfl, X2, h2⟩
 obtain ⟨X1, e1, hs1, hc1, hf1⟩ := H1.out.disk h2.updM
 have hc1x : Chg X.foot W w1 := by simpa using h2.c
 have hc1w := (Chg.of_below HB.out (XY X Y)).trans hc1 (fun g hg => .inl hg)
 have hf1w : ∀ g ∈ XY X1 Y, g ∈ XY X Y ∨ w.heap.size ≤ g := fun g hg => (hf1 g hg).imp id (fun q => Nat.le_trans HB.out.size q)
 have HS1 := Lib.hid hs1
 have HC1 := Lib.hid hc1w
 have HF1 := Lib.hid hf1w
 have hgx : ∀ g, g ∉ XY X Y → g ∉ X.foot := fun g hg hm => hg (List.mem_append_left _ hm)
 by_cases he : er = 0
 ·subst he
  have hbx1 := HBX.out.chg hc1 hgo
  have y0 := hbx1.cell 0
  have y1 := hbx1.cell 1
  have y2 := hbx1.cell 2
  have y3 := hbx1.cell 3
  have y4 := hbx1.cell 4
  have y5 := hbx1.cell 5
  have y6 := hbx1.cell 6
  simp only [gE0, gE1] at y0 y1 y2 y3 y4 y5 y6
  have hrd2 := (row_chg hc1 HROW.out.1 (Nat.le_refl _) (fun j _ a ha => hD a ha)).up hc1.size
  have hra2 := (row_chg hc1 HROW.out.2 (Nat.le_refl _) (fun j _ a ha => hA a ha)).up hc1.size
  have hsv := ssave_any hs1 x D dm dd A2 n2 c2 hdm hn2 hrd2 hra2 hvf hc0 hnl
  obtain ⟨r, hr⟩ : ∃ r, r = St.saved S1 V x := ⟨_, rfl⟩
  have hR2 := HR.out
  rw [if_neg (by simp)] at hR2
  rw [← hr] at hsv hR2
  have hr1 : ∃ S3 M3 b3 er3, r = (S3, { V with M := M3, only := b3 }, er3) := ⟨_, _, _, _, hr⟩
  obtain ⟨S3, M3, b3, er3, rfl⟩ := hr1
  obtain ⟨V3, hV3⟩ : ∃ V3 : Sv, V3 = { V with M := M3, only := b3 } := ⟨_, rfl⟩
  simp only at hsv hR2
  rw [← hV3] at hsv hR2
  have HV3 := Lib.hid hV3
  unfold Ed.val at hsv
  have HSV := Lib.hid hsv
  have HR2 := Lib.hid hR2
  clear hsv hr hV3 hR2 hrd2 hra2 hbx1 HROW HBX HR HSD hs1 hc1 hf1 hc1w hf1w hc1x h2
  go_wp2_with fail
  refine HSV.out.mono ?_
  rintro e w3 ⟨rfl, X3, P3, e3, hs3, hc3, hf3, hP3⟩
  have e3s : ({ Y with P := P3 } : Yw).s = Y.s := rfl
  have hcw := HC1.out.trans hc3 HF1.out
  have hfw : ∀ g ∈ XY X3 Y, g ∈ XY X Y ∨ w.heap.size ≤ g := fun g hg => by
   rcases hf3 g hg with q | q
   ·exact HF1.out g q
   ·exact .inr (Nat.le_trans HC1.out.size q)
  have hPw : P3 = Y.P ∨ ∀ a, P3.a = some a → w.heap.size ≤ a.block := hP3.imp id (fun q a ha => Nat.le_trans HC1.out.size (q a ha))
  have hs3b := hs3
  rw [HV3.out] at hs3b
  have hcl := HK.out w3 X3 P3 S3 M3 b3 (e3.trans e1) hcw hfw hPw hs3b
  rw [← HV3.out] at hcl
  have hup : SvUpdB B X Y w w3 S3 V3 := SvUpd.toB ⟨X3, { Y with P := P3 }, e3.trans e1, e3s, hs3, hcw, hfw⟩ hB
  have hend : ∀ w5, SvUpdB B X3 { Y with P := P3 } w3 w5 S3 (F V3) → SvUpdB B X Y w w5 S3 (F V3) := fun w5 k => SvUpdB.trans (e3.trans e1) e3s hcw hfw hB k
  have c10 := hs3.box.cell 10
  simp only [Yw.cells, gE0, gE1] at c10
  have HCL := Lib.hid hcl
  have HUP := Lib.hid hup
  have HEND := Lib.hid hend
  clear hcl hup hend hcw hfw hs3 hs3b hPw hP3 hc3 hf3 e3s HSV HC1 HF1 HS1 y0 y1 y2 y3 y4 y5 y6
  by_cases he3 : er3 = 0
  ·subst he3
   have HR3 := Lib.hid (HR2.out.trans (if_pos (.inl rfl)))
   go_wp2_with fail
   rw [HF.out, Oper.upon_enter]
   refine HCL.out.mono ?_
   rintro e w5 ⟨rfl, h5⟩
   have H5 := Lib.hid (HEND.out _ h5)
   clear h5
   go_wp2
   go_ret
   exact ⟨by rw [HR3.out]; rfl, by rw [HR3.out]; exact H5.out⟩
  ·have e3i : ((er3 : Int) == 0) = false := by simp; omega
   have hb3 : b3 = V3.only := by rw [HV3.out]
   cases ho : V3.only with
   | true =>
    rw [ho] at c10
    have HR3 := Lib.hid (HR2.out.trans (if_pos (.inr (hb3.trans ho))))
    clear ho he3 hb3
    go_wp2_with fail
    rw [HF.out, Oper.upon_enter]
    refine HCL.out.mono ?_
    rintro e w5 ⟨rfl, h5⟩
    have H5 := Lib.hid (HEND.out _ h5)
    clear h5
    go_wp2
    go_ret
    exact ⟨by rw [HR3.out]; rfl, by rw [HR3.out]; exact H5.out⟩
   | false =>
    rw [ho] at c10
    have HR3 := Lib.hid (HR2.out.trans (if_neg (by simp [he3, hb3.trans ho])))
    clear ho he3 hb3
    go_wp2
    go_ret
    exact ⟨by rw [HR3.out]; rfl, by rw [HR3.out]; exact HUP.out⟩
 ·have e1i : ((er : Int) == 0) = false := by simp; omega
  have hR2 := HR.out
  rw [if_pos he] at hR2
  have HR2 := Lib.hid hR2
  clear hR2 he
  have HU := Lib.hid (show SvUpdB B X Y w w1 S1 V from SvUpd.toB ⟨X1, Y, e1, rfl, hs1, hc1w, hf1w⟩ hB)
  clear hs1 hc1 hf1 hc1w hf1w hc1x h2
  go_wp2
  go_ret
  exact ⟨by rw [HR2.out]; rfl, by rw [HR2.out]; exact HU.out⟩
end
section
open Go Go.RowKit Go.Lib Go.Shelf
variable {w w1 w2 : World} {X X1 X2 : Dw} {S S1 S2 : Sd} {Y Y1 Y2 : Yw} {V V1 V2 : Sv}
def hval (lev n : Int) (f : Nat) : Value := .agg #[.int .i64 lev, .int .i64 n, .pointer (some ⟨f, 0, none⟩)]
def SwPost (X : Dw) (Y : Yw) (w : World) (V : Sv) (l : List It) (lev n : Int) (R : Sd × Nat) (e : Ending) (w' : World) : Prop := ∃ (a b : Int) (p : Option Addr) (X' : Dw), e = .returned (.tuple #[.agg #[.int .i64 a, .int .i64 b, .pointer p], .int .i64 (R.2 : Int)]) ∧ X'.d = X.d ∧ SvAt w' X' R.1 Y V ∧ Chg (XY X Y) w w' ∧ (∀ g ∈ XY X' Y, g ∈ XY X Y ∨ w.heap.size ≤ g) ∧ (R.2 = 0 → ∃ f, a = lev ∧ b = n ∧ p = some ⟨f, 0, none⟩ ∧ ∀ G, (∀ g ∈ G, g ∈ XY X' Y ∨ g < w.heap.size) → Fixed G w' fun W => TbAt W f (Tb.rows l))
structure Way (w0 : World) (X0 : Dw) (Y : Yw) (V : Sv) (w : World) (X : Dw) (S : Sd) : Prop where
 at_ : SvAt w X S Y V
 d : X.d = X0.d
 c : Chg (XY X0 Y) w0 w
 f : ∀ g ∈ XY X Y, g ∈ XY X0 Y ∨ w0.heap.size ≤ g
theorem Way.start (h : SvAt w X S Y V) : Way w X Y V w X S := ⟨h, rfl, Chg.refl _ _, fun _ hg => .inl hg⟩
theorem Way.below {w0 : World} {X0 : Dw} (k : Way w0 X0 Y V w X S) (hb : Below w.heap.size w w1) : Way w0 X0 Y V w1 X S := ⟨k.at_.below hb, k.d, k.c.trans (Chg.of_below hb []) (fun g hg => by cases hg), k.f⟩
theorem Way.disk {w0 : World} {X0 : Dw} (k : Way w0 X0 Y V w X S) (hu : UpdM X w w1 S1) : ∃ X1, X1.d = X.d ∧ Way w0 X0 Y V w1 X1 S1 ∧ Chg (XY X Y) w w1 ∧ ∀ g ∈ XY X1 Y, g ∈ XY X Y ∨ w.heap.size ≤ g := by
 obtain ⟨X1, e, h1, c1, f1⟩ := k.at_.disk hu
 refine ⟨X1, e, ⟨h1, e.trans k.d, k.c.trans c1 k.f, fun g hg => ?_⟩, c1, f1⟩
 rcases f1 g hg with q | q
 ·exact k.f g q
 ·exact .inr (Nat.le_trans k.c.size q)
theorem Way.scr {w0 : World} {X0 : Dw} {S0 : Sd} (h0 : SvAt w0 X0 S0 Y V) (k : Way w0 X0 Y V w X S) {G : List Nat} (hG : ∀ g ∈ G, w0.heap.size ≤ g ∧ g ∉ XY X Y) (c2 : Chg G w w1) : Way w0 X0 Y V w1 X S :=
 ⟨h0.scr k.at_ k.c k.f hG c2, k.d, k.c.trans c2 fun g hg => .inr (hG g hg).1, k.f⟩
theorem Way.upd {w0 : World} {X0 : Dw} (k : Way w0 X0 Y V w X S) : SvUpd X0 Y w0 w S V := ⟨X, Y, k.d, rfl, k.at_, k.c, k.f⟩
theorem cg3 (g : Nat) (w : World) (a b c : Value) : Chg [g] w (((w.setCell ⟨g, 0, none⟩ a).setCell ⟨g, 1, none⟩ b).setCell ⟨g, 2, none⟩ c) :=
 (((Chg.refl [g] w).setCell _ (.inl (by simp))).setCell _ (.inl (by simp))).setCell _ (.inl (by simp))
theorem Tb.make_len {l : List It} (h : l.length ≤ 2000) : (Tb.make l).length ≤ 100000 := by
 have h1 : (Tb.rows l).length ≤ 100 := by
  have := Tb.cut_len 20 (by omega) l.length l
  unfold Tb.rows
  omega
 have h2 := Tb.blocks_len (Tb.rows l) (fun r hr => (Tb.cut_mem 20 (by omega) _ _ r hr).2.1)
 have h3 := Tb.index_len 0 (Tb.rows l)
 have h4 := Tb.filt_len l h
 unfold Tb.make
 simp only [List.length_append, Fr.put_length]
 have p1 := Pn.put_len (Tb.blocks (Tb.rows l)).length
 have p2 := Pn.put_len ((Tb.blocks (Tb.rows l)).length + ((Tb.index 0 (Tb.rows l)).length + 12))
 have p3 := Pn.put_len l.length
 omega
theorem number_le (S : Sd) : 1 ≤ St.number S ∧ St.number S ≤ 1073741825 := by
 have hr1 : 0 ≤ Mn.greatest S.list Mn.kLog ∧ Mn.greatest S.list Mn.kLog ≤ 1073741824 := greatest_rng Mn.kLog (.inl rfl) S.list 0 (by omega) (by omega)
 have hr2 : 0 ≤ Mn.greatest S.list Mn.kTab ∧ Mn.greatest S.list Mn.kTab ≤ 1073741824 := greatest_rng Mn.kTab (.inr rfl) S.list 0 (by omega) (by omega)
 unfold St.number
 omega
theorem sname_len (k : List UInt8) (n : Int) : (Mn.name k n).length ≤ 1000 := by
 by_cases hne : Mn.name k n = []
 ·rw [hne]; simp
 ·have := Mn.name_len hne
  omega
theorem swrite_any (h : SvAt w X S Y V) (L : Option Addr) (m d : Nat) (l : List It) (hm : m ≤ 2000) (hmd : m ≤ d) (hq : Row w.heap.size w L m 5 (itc l)) (hf : ∀ x ∈ l, x.fit) (hgd : Tb.good l = true) (lev : Int) (hld : S.load ≤ 1000000000000) :
  Calls Tryz.prog 96 #[.pointer (some ⟨Y.s, 0, none⟩), .slice L m d, .int .i64 lev] w (SwPost X Y w V l lev (St.number S) (St.write S l)) := by
 have hml := hq.itlen
 have hbA := (Below.refl w.heap.size w).alloc (Nat.le_refl _) (.cells #[.int .i64 0, .int .i64 0, .pointer none] 169)
 have hbx := BoxO.new w #[.int .i64 0, .int .i64 0, .pointer none] 169
 obtain ⟨W, hW⟩ : ∃ W, W = w.alloc (.cells #[.int .i64 0, .int .i64 0, .pointer none] 169) := ⟨_, rfl⟩
 obtain ⟨gr, hgr⟩ : ∃ gr, gr = w.heap.size := ⟨_, rfl⟩
 rw [← hgr] at hbx
 rw [← hW] at hbA hbx
 have hxlt : ∀ g ∈ XY X Y, g < w.heap.size := h.lt
 have k1 : Way w X Y V W X S := (Way.start h).below hbA
 have hmk := tbmake_any L m d l W (by omega) hmd ((hq.below hbA).up hbA.size) hf
 obtain ⟨n, hn⟩ : ∃ n, n = St.number S := ⟨_, rfl⟩
 have hnr := number_le S
 have hnn : (Mn.name Mn.kTab n).length ≤ 1000 := sname_len _ _
 obtain ⟨R, hR⟩ : ∃ R, R = St.write S l := ⟨_, rfl⟩
 unfold St.write at hR
 have hR0 : St.write S l = R := by rw [hR]; rfl
 rw [hR0]
 rw [← hn] at hR hnr ⊢
 have hln : l.length ≤ 2000 := by omega
 have hMl := Tb.make_len hln
 have hop := Tb.open_make hgd hf
 have hgl := hbx.lt
 have hend : ∀ (w' : World) (X' : Dw) (S' : Sd) (er : Nat), Way w X Y V w' X' S' → gr ∉ XY X' Y → er ≠ 0 → R = (S', er) → SwPost X Y w V l lev n R (.returned (.tuple #[.agg #[.int .i64 0, .int .i64 0, .pointer none], .int .i64 (er : Int)])) (((w'.setCell ⟨gr, 0, none⟩ (.int .i64 0)).setCell ⟨gr, 1, none⟩ (.int .i64 0)).setCell ⟨gr, 2, none⟩ (.pointer none)) := by
  intro w' X' S' er k hx hne he
  have hke := Way.scr h k (G := [gr]) (fun g hg => by rw [List.mem_singleton.1 hg]; exact ⟨by omega, hx⟩) (cg3 gr w' (.int .i64 0) (.int .i64 0) (.pointer none))
  rw [he]
  exact ⟨_, _, _, _, rfl, hke.d, hke.at_, hke.c, hke.f, fun h0 => absurd h0 hne⟩
 have hendT : ∀ (w' : World) (X' : Dw) (S' : Sd) (er f : Nat), Way w X Y V w' X' S' → gr ∉ XY X' Y → (∀ G W, (∀ g ∈ G, g ∈ XY X' Y ∨ g < w.heap.size) → Chg G (((w'.setCell ⟨gr, 0, none⟩ (.int .i64 lev)).setCell ⟨gr, 1, none⟩ (.int .i64 n)).setCell ⟨gr, 2, none⟩ (.pointer (some ⟨f, 0, none⟩))) W → TbAt W f (Tb.rows l)) → R = (S', er) → SwPost X Y w V l lev n R (.returned (.tuple #[hval lev n f, .int .i64 (er : Int)])) (((w'.setCell ⟨gr, 0, none⟩ (.int .i64 lev)).setCell ⟨gr, 1, none⟩ (.int .i64 n)).setCell ⟨gr, 2, none⟩ (.pointer (some ⟨f, 0, none⟩))) := by
  intro w' X' S' er f k hx ht he
  have hke := Way.scr h k (G := [gr]) (fun g hg => by rw [List.mem_singleton.1 hg]; exact ⟨by omega, hx⟩) (cg3 gr w' (.int .i64 lev) (.int .i64 n) (.pointer (some ⟨f, 0, none⟩)))
  rw [he]
  exact ⟨_, _, _, _, rfl, hke.d, hke.at_, hke.c, hke.f, fun _ => ⟨f, rfl, rfl, rfl, fun G hG W c => ht G W hG c⟩⟩
 have HEND := Lib.hid hend
 have HENDT := Lib.hid hendT
 clear hend hendT
 have HV := Lib.hid hW
 have HG := Lib.hid hgr
 have HMK := Lib.hid hmk
 have HR := Lib.hid hR
 have HOP := Lib.hid hop
 have HN := Lib.hid hn
 have HX := Lib.hid hxlt
 have HML := Lib.hid (And.intro hml hMl)
 clear hmk hR hR0 hop hn hxlt hMl hln hml hq hbA hgr hW
 go_enter Tryz.func96, Tryz.ntmps96
 go_wp2_with fail
 rw [← HV.out, ← HG.out]
 with_reducible refine HMK.out.mono ?_
 rintro e w2 (⟨_, A', M, c', rfl, ho, hMc, hcm, hb2⟩ | ⟨hbad, _⟩)
 rotate_left
 ·rw [hgd] at hbad
  cases hbad
 have k2 := k1.below hb2
 have FX2 : Fixed (XY X Y) w2 fun W' => BoxO W' 169 gr #[.int .i64 0, .int .i64 0, .pointer none].toList ∧ Row W'.heap.size W' A' M 1 (bts (Tb.make l)) := by
  obtain ⟨P, c0, q1, q2, q3, q4⟩ := own_form ho
  injection q1 with q1 _ _
  subst q1
  have hbw := hbx.below hb2
  have hrw := Row.own ho
  refine Fixed.and (fun W' c => hbw.chg c (fun hm => ?_)) (fun W' c => (row_chg c hrw (Nat.le_refl _) (fun j _ a ha hm => ?_)).up c.size)
  ·have := HX.out _ hm
   have := HG.out
   omega
  ·have := HX.out _ hm
   have := (q4 a ha).1
   have := HG.out
   have := hbx.lt
   omega
 have HLO : Hid (∀ a, A' = some a → W.heap.size ≤ a.block ∧ a.block < w2.heap.size) := Lib.hid (by
  obtain ⟨P, c0, q1, q2, q3, q4⟩ := own_form ho
  injection q1 with q1 _ _
  subst q1
  exact fun a ha => ⟨(q4 a ha).1, (q4 a ha).2.1⟩)
 have HM5 : Hid (M = (Tb.make l).length) := Lib.hid (by
  have := ho.1
  rw [bts_length] at this
  omega)
 have HNU := Lib.hid (snumber_any k2.at_)
 have HK1 := Lib.hid k1
 clear k1 hbx HMK ho
 go_wp2_with fail
 with_reducible refine HNU.out.mono ?_
 rintro e w3 ⟨rfl, hb3⟩
 rw [← HN.out]
 have k3 := k2.below hb3
 have FX3 := FX2.below hb3
 have hgx : ∀ X', (∀ g ∈ XY X' Y, g ∈ XY X Y ∨ w2.heap.size ≤ g) → gr ∉ XY X' Y := fun X' hf hm => by
  have q1 := HG.out
  have q2 := FX2.now.1.lt
  rcases hf _ hm with q | q
  ·have := HX.out _ q
   omega
  ·omega
 have HGX := Lib.hid hgx
 clear hgx
 have hR := HR.out
 by_cases hbig : 1073741824 < n
 ·rw [if_pos hbig]
  rw [if_pos hbig] at hR
  have HZ := Lib.hid (HEND.out _ _ _ 65 k3 (HGX.out X (fun g hg => .inl hg)) (by omega) hR)
  have hbq := FX3.now.1
  have s0 := hbq.cell 0
  have s1 := hbq.cell 1
  have s2 := hbq.cell 2
  have z0 := hbq.free 0
  have z1 := hbq.free 1
  have z2 := hbq.free 2
  simp only [gE0, gE1] at s0 s1 s2
  clear hbq
  clear HEND HENDT hR
  go_wp2
  exact bodyPost_ret (v := .tuple #[.agg #[.int .i64 0, .int .i64 0, .pointer none], .int .i64 (65 : Int)]) (by simp [results, go_sem, *]) rfl HZ.out
 ·rw [if_neg hbig]
  rw [if_neg hbig] at hR
  have hnm := name_any (str Mn.kTab) (by rw [str_size]; decide) n (by omega) w3 k3.at_.dm.env
  rw [list_str] at hnm
  rw [show str Mn.kTab = ({ data := #[116, 97, 98] } : ByteArray) from rfl] at hnm
  obtain ⟨nm, hnme⟩ : ∃ nm, nm = Mn.name Mn.kTab n := ⟨_, rfl⟩
  rw [← hnme] at hnm hR hnn
  have HNM := Lib.hid hnm
  have HR0 := Lib.hid hR
  clear hnm hnme hR
  go_wp2_with fail
  with_reducible refine HNM.out.mono ?_
  rintro e w4 ⟨rfl, hb4⟩
  have k4 := k3.below hb4
  have FX4 := FX3.below hb4
  have c0 := k4.at_.box.cell 0
  simp only [Yw.cells, gE0, gE1] at c0
  have hcr := (Acc.start (F := []) k4.at_.dm).create (str nm) (by rw [str_size]; unfold maxLen; omega) (by omega)
  rw [list_str] at hcr
  obtain ⟨a, ha⟩ : ∃ a, a = S.create nm := ⟨_, rfl⟩
  have hR := HR0.out
  rw [← ha] at hcr hR
  obtain ⟨S5, er5⟩ := a
  simp only at hcr hR
  have HCR := Lib.hid hcr
  have HR1 := Lib.hid hR
  have HSZ := Lib.hid (show w2.heap.size ≤ w4.heap.size from Nat.le_trans hb3.size hb4.size)
  clear hcr hR ha HR0 HR hb3 hb4 HNU HNM k3 k2 FX3
  go_wp2_with fail
  with_reducible refine HCR.out.mono ?_
  rintro e w5 ⟨rfl, Xq, hq⟩
  obtain ⟨X5, -, k5, hc5, hf5⟩ := k4.disk hq.updM
  have FX5 := FX4.step hc5 hf5
  have hg5 : gr ∉ XY X5 Y := HGX.out X5 (fun g hg => (hf5 g hg).imp id (fun q => Nat.le_trans HSZ.out q))
  by_cases he5 : er5 = 0
  ·subst he5
   have hR := HR1.out
   rw [if_neg (by simp)] at hR
   have c0 := k5.at_.box.cell 0
   simp only [Yw.cells, gE0, gE1] at c0
   have hap := (Acc.start (F := []) k5.at_.dm).append (str nm) (by rw [str_size]; unfold maxLen; omega) A' M c' (Tb.make l) (by have := HM5.out; have := HML.out.2; omega) FX5.now.2 (fun a ha hm => by
    have q1 := HLO.out a ha
    have q2 := HV.out
    have q3 := hgl
    have q4 := HG.out
    rcases hf5 _ (List.mem_append_left _ hm) with q | q
    ·have := HX.out _ q
     omega
    ·have := HSZ.out
     omega)
   rw [list_str] at hap
   obtain ⟨a, ha⟩ : ∃ a, a = S5.append nm (Tb.make l) := ⟨_, rfl⟩
   rw [← ha] at hap hR
   obtain ⟨S6, er6⟩ := a
   simp only at hap hR
   have HAP := Lib.hid hap
   have HR2 := Lib.hid hR
   have HF5 := Lib.hid (fun g hg => (hf5 g hg).imp id (fun q => Nat.le_trans HSZ.out q) : ∀ g ∈ XY X5 Y, g ∈ XY X Y ∨ w2.heap.size ≤ g)
   have HS5 := Lib.hid (show w2.heap.size ≤ w5.heap.size from Nat.le_trans HSZ.out hc5.size)
   clear hap hR ha HR1 HCR hq hc5 hf5 k4 FX4
   go_wp2_with fail
   with_reducible refine HAP.out.mono ?_
   rintro e w6 ⟨rfl, Xq, hq⟩
   obtain ⟨X6, -, k6, hc6, hf6⟩ := k5.disk hq.updM
   have FX6 := FX5.step hc6 hf6
   have HF6 := Lib.hid (fun g hg => (by
    rcases hf6 g hg with q | q
    ·exact HF5.out g q
    ·exact .inr (Nat.le_trans HS5.out q)) : ∀ g ∈ XY X6 Y, g ∈ XY X Y ∨ w2.heap.size ≤ g)
   have hg6 : gr ∉ XY X6 Y := HGX.out X6 HF6.out
   by_cases he6 : er6 = 0
   ·subst he6
    have hR := HR2.out
    rw [if_neg (by simp)] at hR
    have htr := tbread_any A' M c' (Tb.make l) w6 (by have := HM5.out; have := HML.out.2; omega) hMc hcm FX6.now.2
    have HTR := Lib.hid htr
    have HR3 := Lib.hid hR
    have HS6 := Lib.hid (show w2.heap.size ≤ w6.heap.size from Nat.le_trans HS5.out hc6.size)
    clear htr hR HAP HR2 hq hc6 hf6 k5 FX5 c0
    go_wp2_with fail
    with_reducible refine HTR.out.mono ?_
    rintro e w7 ⟨hb7, (⟨hno, _⟩ | ⟨rs, hrs, f, rfl, hsm⟩)⟩
    ·rw [HOP.out] at hno
     cases hno
    rw [HOP.out] at hrs
    injection hrs with hrs
    subst hrs
    have k7 := k6.below hb7
    have FX7 := FX6.below hb7
    have hlt6 := k6.at_.lt
    have hgr6 : gr < w6.heap.size := FX6.now.1.lt
    have hfx : ∀ W, Chg (List.range w6.heap.size) w7 W → TbAt W f (Tb.rows l) := fun W c => hsm W (Sames.of_chg c fun g hg => List.mem_range.1 hg)
    have HL6 := Lib.hid (And.intro hlt6 (And.intro hgr6 (show w.heap.size ≤ w6.heap.size from k6.c.size)))
    have c0 := k7.at_.box.cell 0
    simp only [Yw.cells, gE0, gE1] at c0
    have hsy := (Acc.start (F := []) k7.at_.dm).sync (str nm) (by rw [str_size]; unfold maxLen; omega)
    rw [list_str] at hsy
    obtain ⟨a, ha⟩ : ∃ a, a = S6.sync nm := ⟨_, rfl⟩
    have hR := HR3.out
    rw [← ha] at hsy hR
    obtain ⟨S8, er8⟩ := a
    simp only at hsy hR
    have HSY := Lib.hid hsy
    have HR4 := Lib.hid hR
    have HFX := Lib.hid hfx
    have HS7 := Lib.hid (show w2.heap.size ≤ w7.heap.size from Nat.le_trans HS6.out hb7.size)
    clear hsy hR ha HR3 HTR hsm hb7 k6 FX6 hlt6 hgr6 hfx
    go_wp2_with fail
    with_reducible refine HSY.out.mono ?_
    rintro e w8 ⟨rfl, Xq, hq⟩
    obtain ⟨X8, -, k8, hc8, hf8⟩ := k7.disk hq.updM
    have FX8 := FX7.step hc8 hf8
    have hg8 : gr ∉ XY X8 Y := HGX.out X8 (fun g hg => by
     rcases hf8 g hg with q | q
     ·exact HF6.out g q
     ·exact .inr (Nat.le_trans HS7.out q))
    have hz := HENDT.out w8 X8 S8 er8 f k8 hg8 (fun G W hG cW => HFX.out W (((hc8.mono fun g hg => .inl (List.mem_range.2 (HL6.out.1 g hg))).trans (cg3 gr w8 (.int .i64 lev) (.int .i64 n) (.pointer (some ⟨f, 0, none⟩))) (fun g hg => .inl (by rw [List.mem_singleton.1 hg]; exact List.mem_range.2 HL6.out.2.1))).trans cW (fun g hg => by
     rcases hG g hg with q | q
     ·exact (hf8 g q).imp (fun q => List.mem_range.2 (HL6.out.1 g q)) id
     ·exact .inl (List.mem_range.2 (Nat.lt_of_lt_of_le q HL6.out.2.2))))) HR4.out
    have HZ := Lib.hid hz
    have hbq := FX8.now.1
    have s0 := hbq.cell 0
    have s1 := hbq.cell 1
    have s2 := hbq.cell 2
    have z0 := hbq.free 0
    have z1 := hbq.free 1
    have z2 := hbq.free 2
    simp only [gE0, gE1] at s0 s1 s2
    clear hbq hz HENDT HEND hg8 hc8 hf8 k8 FX8 HFX hq k7 FX7 c0 HSY HR4
    go_wp2
    exact bodyPost_ret (v := .tuple #[hval lev n f, .int .i64 (er8 : Int)]) (by simp [results, hval, go_sem, *]) rfl HZ.out
   ·have e6i : ((er6 : Int) == 0) = false := by simp; omega
    have hR := HR2.out
    rw [if_pos he6] at hR
    have HZ := Lib.hid (HEND.out _ _ _ er6 k6 hg6 (by assumption) hR)
    have hbq := FX6.now.1
    have s0 := hbq.cell 0
    have s1 := hbq.cell 1
    have s2 := hbq.cell 2
    have z0 := hbq.free 0
    have z1 := hbq.free 1
    have z2 := hbq.free 2
    simp only [gE0, gE1] at s0 s1 s2
    clear hbq
    clear HEND HENDT hR
    go_wp2
    exact bodyPost_ret (v := .tuple #[.agg #[.int .i64 0, .int .i64 0, .pointer none], .int .i64 ((er6 : Nat) : Int)]) (by simp [results, go_sem, *]) rfl HZ.out
  ·have e5i : ((er5 : Int) == 0) = false := by simp; omega
   have hR := HR1.out
   rw [if_pos he5] at hR
   have HZ := Lib.hid (HEND.out _ _ _ er5 k5 hg5 (by assumption) hR)
   have hbq := FX5.now.1
   have s0 := hbq.cell 0
   have s1 := hbq.cell 1
   have s2 := hbq.cell 2
   have z0 := hbq.free 0
   have z1 := hbq.free 1
   have z2 := hbq.free 2
   simp only [gE0, gE1] at s0 s1 s2
   clear hbq
   clear HEND HENDT hR
   go_wp2
   exact bodyPost_ret (v := .tuple #[.agg #[.int .i64 0, .int .i64 0, .pointer none], .int .i64 ((er5 : Nat) : Int)]) (by simp [results, go_sem, *]) rfl HZ.out
end
end Go.Proofs.YtdkjoigpahafmaaGreatDoor
