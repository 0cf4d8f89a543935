/- Texts StoG, StoF, KeepA, HasA, HasB in one. No conditions. -/
import Derived.Test.YtdkjoigpahafmaaGreatDoorBunAA
import Derived.Test.YtdkjoigpahafmaaGreatDoorBunAS
import Derived.Test.YtdkjoigpahafmaaGreatDoorBunAJ
import Derived.MapKept
import Derived.ChangeMaps4

set_option linter.unusedSimpArgs false
set_option linter.unusedVariables false
set_option maxRecDepth 100000
set_option maxHeartbeats 16000000
namespace Go.Proofs.YtdkjoigpahafmaaGreatDoor
section
open Go Go.RowKit Go.Lib Go.Shelf
variable {w w1 w2 : World} {X X1 X2 : Dw} {S S1 S2 : Sd} {Y Y1 Y2 : Yw} {V V1 V2 : Sv}
theorem SvAt.diskE (h : SvAt w X S Y V) (e : X1.d = X.d) (hd : Dm w1 X1 S1) (c : Chg X.foot w w1) (hf : ∀ g ∈ X1.foot, g ∈ X.foot ∨ w.heap.size ≤ g) : SvAt w1 X1 S1 Y V ∧ Chg (XY X Y) w w1 ∧ (∀ g ∈ XY X1 Y, g ∈ XY X Y ∨ w.heap.size ≤ g) := by
 have hn : ∀ g ∈ Y.foot, g ∉ X.foot := h.apart.x
 have hc2 : Chg (XY X Y) w w1 := c.mono fun g hg => .inl (List.mem_append_left _ hg)
 have hf2 : ∀ g ∈ XY X1 Y, g ∈ XY X Y ∨ w.heap.size ≤ g := fun g hg => by
  rcases List.mem_append.1 hg with h1 | h1
  ·rcases hf g h1 with h2 | h2
   ·exact .inl (List.mem_append_left _ h2)
   ·exact .inr h2
  ·exact .inl (List.mem_append_right _ h1)
 refine ⟨⟨hd, by rw [e]; exact h.box.chg c (hn _ (Yw.mem_foot.2 (.inl rfl))), by rw [e]; exact h.man.chg c (hn _ (Yw.mem_foot.2 (.inr (.inl rfl)))), h.row.step c hf, h.pout, by rw [e]; exact h.log.chg c (hn _ (Yw.mem_foot.2 (.inr (.inr (.inl rfl))))), h.mem.chg c (fun g hg => hn g (Yw.mem_foot.2 ?_)), h.its, h.tabs.step hc2 hf2, h.st.step hc2 hf2, ⟨fun g hg hm => ?_, h.apart.s, h.apart.m, h.apart.g⟩, h.ng⟩, hc2, hf2⟩
 ·rcases List.mem_cons.1 hg with rfl | hg
  ·exact .inr (.inr (.inr (.inl rfl)))
  ·exact .inr (.inr (.inr (.inr hg)))
 ·rcases hf g hm with h1 | h1
  ·exact hn g hg h1
  ·have := h.ylt g hg
   omega
theorem Way.diskE {w0 : World} {X0 : Dw} (k : Way w0 X0 Y V w X S) (e : X1.d = X.d) (hd : Dm w1 X1 S1) (c : Chg X.foot w w1) (hf : ∀ g ∈ X1.foot, g ∈ X.foot ∨ w.heap.size ≤ g) : Way w0 X0 Y V w1 X1 S1 ∧ Chg (XY X Y) w w1 ∧ ∀ g ∈ XY X1 Y, g ∈ XY X Y ∨ w.heap.size ≤ g := by
 obtain ⟨h1, c1, f1⟩ := k.at_.diskE e hd c hf
 refine ⟨⟨h1, e.trans k.d, k.c.trans c1 k.f, fun g hg => ?_⟩, c1, f1⟩
 rcases f1 g hg with q | q
 ·exact k.f g q
 ·exact .inr (Nat.le_trans k.c.size q)
def SfPost (X : Dw) (Y : Yw) (w : World) (V : Sv) (n : Int) (R : Sd × Nat) (e : Ending) (w' : World) : Prop := ∃ (p : Option Addr) (n' : Int) (X' : Dw), e = .returned (.tuple #[.pointer p, .int .i64 n', .int .i64 (R.2 : Int)]) ∧ X'.d = X.d ∧ SvAt w' X' R.1 Y V ∧ Chg (XY X Y) w w' ∧ (∀ g ∈ XY X' Y, g ∈ XY X Y ∨ w.heap.size ≤ g) ∧
 (R.2 = 0 → ∃ g, p = some ⟨g, 0, none⟩ ∧ n' = n ∧ LgAt w' g X.d (Mn.name Mn.kLog n) 0 0 ∧ w.heap.size ≤ g ∧ g ∉ XY X' Y)
theorem sfresh_any (h : SvAt w X S Y V) (hld : S.load ≤ 1000000000000) :
  Calls Tryz.prog 97 #[.pointer (some ⟨Y.s, 0, none⟩), .slice none 0 0] w (SfPost X Y w V (St.number S) (St.fresh S)) := by
 have hylt := h.ylt
 obtain ⟨n, hn⟩ : ∃ n, n = St.number S := ⟨_, rfl⟩
 have hnr := number_le S
 have hnn : (Mn.name Mn.kLog n).length ≤ 1000 := sname_len _ _
 obtain ⟨R, hR⟩ : ∃ R, R = St.fresh S := ⟨_, rfl⟩
 have hR0 : St.fresh S = R := hR.symm
 rw [hR0]
 unfold St.fresh at hR
 rw [← hn] at hR hnr ⊢
 have hnu := snumber_any h
 rw [← hn] at hnu
 have k1 : Way w X Y V w X S := Way.start h
 clear hR0 hn
 by_cases hbig : 1073741824 < n
 ·rw [if_pos hbig] at hR hnu
  have HNU := Lib.hid hnu
  have HR := Lib.hid hR
  clear hnu hR h
  go_enter Tryz.func97, Tryz.ntmps97
  go_wp2_with fail
  with_reducible refine HNU.out.mono ?_
  rintro e w3 ⟨rfl, hb3⟩
  have k3 := k1.below hb3
  have HK := Lib.hid k3
  clear k1 k3 hb3
  go_wp2
  refine bodyPost_ret (v := .tuple #[.pointer none, .int .i64 0, .int .i64 65]) (by simp [results, go_sem]) rfl ?_
  rw [HR.out]
  exact ⟨_, _, _, rfl, HK.out.d, HK.out.at_, HK.out.c, HK.out.f, fun h0 => by cases h0⟩
 rw [if_neg hbig] at hR hnu
 obtain ⟨nm, hnm⟩ : ∃ nm, nm = Mn.name Mn.kLog n := ⟨_, rfl⟩
 rw [← hnm] at hR hnn
 replace hR : R = if (S.create nm).2 ≠ 0 then S.create nm else (S.create nm).1.sync nm := hR
 have hname : ∀ W, Below w.heap.size w W → Calls Tryz.prog 67 #[.string { data := #[108, 111, 103] }, .int .i64 n] W fun e w' => e = .returned (.string (str nm)) ∧ Below W.heap.size W w' := fun W hb => by
  have := name_any (str Mn.kLog) (by rw [str_size]; decide) n (by omega) W (k1.below hb).at_.dm.env
  rw [list_str, ← hnm] at this
  exact this
 have hnew : ∀ W, Below w.heap.size w W → Calls Tryz.prog 127 #[.pointer (some ⟨X.d, 0, none⟩), .string (str nm)] W (LnPost X W nm (S.create nm)) := fun W hb => lnew_any X S nm W hnn (by omega) (h.dm.below hb)
 obtain ⟨a, ha⟩ : ∃ a, a = S.create nm := ⟨_, rfl⟩
 rw [← ha] at hR hnew
 obtain ⟨S5, er5⟩ := a
 simp only at hR
 have HNU := Lib.hid hnu
 have HNM := Lib.hid hname
 have HX := Lib.hid h.box
 have HNR := Lib.hid hnr
 have HH := Lib.hid h
 have HNM2 := Lib.hid hnm
 clear hnu ha hname hbig hnr hnm
 by_cases he5 : er5 = 0
 ·subst he5
  rw [if_neg (by simp)] at hR
  have hnew2 : ∀ W, Below w.heap.size w W → Calls Tryz.prog 127 #[.pointer (some ⟨X.d, 0, none⟩), .string (str nm)] W fun e w' => ∃ g X', e = .returned (.tuple #[.pointer (some ⟨g, 0, none⟩), .int .i64 0]) ∧ X'.d = X.d ∧ Dm w' X' S5 ∧ Chg X.foot W w' ∧ (∀ g ∈ X'.foot, g ∈ X.foot ∨ W.heap.size ≤ g) ∧ LgAt w' g X.d nm 0 0 ∧ W.heap.size ≤ g ∧ g ∉ X'.foot := fun W hb => (hnew W hb).mono fun e w' ⟨X', q1, q2, q3, q4, q5⟩ => by
   rcases q5 with ⟨q, _⟩ | ⟨_, g, q6, q7, q8, q9⟩
   ·exact absurd rfl q
   ·exact ⟨g, X', q6, q1, q2, q3, q4, q7, q8, q9⟩
  have HNEW := Lib.hid hnew2
  have HR := Lib.hid hR
  clear hnew hnew2 hR h
  go_enter Tryz.func97, Tryz.ntmps97
  go_wp2_with fail
  with_reducible refine HNU.out.mono ?_
  rintro e w3 ⟨rfl, hb3⟩
  have hdb := below_drew hb3
  go_wp2_with fail
  refine wp_region_held_drew (S := fun w' => BoxO w' 90 Y.s (Y.cells X.d V)) rfl (HX.out.below hdb) (fun hSw => ?_)
  refine wpT (i := 0) (v := ?vfr0) ?hfr0 hSw ?kfr0
  case hfr0 => (intro w hSw; (have k0 := hSw.cell 0; simp only [Yw.cells, gE0] at k0); go_simp; try (with_reducible rfl))
  go_simp
  refine wpT (i := 1) (v := ?vfr1) ?hfr1 hSw ?kfr1
  case hfr1 => (intro w hSw; (have k0 := hSw.cell 0; simp only [Yw.cells, gE0] at k0); go_simp; try (with_reducible rfl))
  go_simp
  refine wpT (i := 2) (v := ?vfr2) ?hfr2 hSw ?kfr2
  case hfr2 => (intro w hSw; (have k0 := hSw.cell 0; simp only [Yw.cells, gE0] at k0); go_simp; try (with_reducible rfl))
  go_simp
  refine wpT (i := 3) (v := ?vfr3) ?hfr3 hSw ?kfr3
  case hfr3 => (intro w hSw; (have k0 := hSw.cell 0; simp only [Yw.cells, gE0] at k0); go_simp; try (with_reducible rfl))
  go_simp
  refine wpT (i := 4) (v := ?vfr4) ?hfr4 hSw ?kfr4
  case hfr4 => (intro w hSw; (have k0 := hSw.cell 0; simp only [Yw.cells, gE0] at k0); go_simp; try (with_reducible rfl))
  go_simp
  refine wpAnyH_ready (rs := [5]) (by kernel_rfl) (by simp) ?_
  refine AllReadyH.cons rfl (fun K hK => ?_) AllReadyH.nil
  go_simp
  with_reducible refine (HNM.out _ hdb).mono ?_
  rintro e w4 ⟨rfl, hb4⟩
  go_simp
  refine hK.out _ _ (hSw.below hb4) (fun hSn => ?_)
  clear hK K hSw
  have hSw := hSn
  clear hSn
  go_simp
  refine wpAnyH_ready (rs := [6]) (by kernel_rfl) (by simp) ?_
  refine AllReadyH.cons rfl (fun K hK => ?_) AllReadyH.nil
  go_simp
  with_reducible refine (HNEW.out _ (later_ hdb hb4)).mono ?_
  rintro e w5 ⟨g, X5, rfl, e5, hdm5, hc5, hf5, hlg, hgl, hgo⟩
  go_simp
  refine hK.out _ _ (hSw.chg hc5 (HH.out.apart.x _ (Yw.mem_foot.2 (.inl rfl)))) (fun hSn => ?_)
  clear hK K hSw
  have hSw := hSn
  clear hSn
  go_simp
  refine wpT (i := 7) (v := ?vfr7) ?hfr7 hSw ?kfr7
  case hfr7 => (intro w hSw; (have k0 := hSw.cell 0; simp only [Yw.cells, gE0] at k0); go_simp; try (with_reducible rfl))
  go_simp
  refine wpT (i := 8) (v := ?vfr8) ?hfr8 hSw ?kfr8
  case hfr8 => (intro w hSw; (have k0 := hSw.cell 0; simp only [Yw.cells, gE0] at k0); go_simp; try (with_reducible rfl))
  go_simp
  refine wpT (i := 9) (v := ?vfr9) ?hfr9 hSw ?kfr9
  case hfr9 => (intro w hSw; (have k0 := hSw.cell 0; simp only [Yw.cells, gE0] at k0); go_simp; try (with_reducible rfl))
  go_simp
  refine wpT (i := 10) (v := ?vfr10) ?hfr10 hSw ?kfr10
  case hfr10 => (intro w hSw; (have k0 := hSw.cell 0; simp only [Yw.cells, gE0] at k0); go_simp; try (with_reducible rfl))
  go_simp
  refine wpT (i := 11) (v := ?vfr11) ?hfr11 hSw ?kfr11
  case hfr11 => (intro w hSw; (have k0 := hSw.cell 0; simp only [Yw.cells, gE0] at k0); go_simp; try (with_reducible rfl))
  go_simp
  refine wpAnyH_done (by kernel_rfl) ?_ _
  have hb4w := later_ hdb hb4
  obtain ⟨k5, hc5x, hf5x⟩ := (k1.below hb4w).diskE e5 hdm5 hc5 hf5
  have hgw : w.heap.size ≤ g := Nat.le_trans hb4w.size hgl
  have hgy : g ∉ XY X5 Y := fun hm => by
   rcases List.mem_append.1 hm with q | q
   ·exact hgo q
   ·have := hylt g q
    omega
  have hg5 := hlg.lt
  have hsy := lsync_any X5 S5 g nm 0 0 w5 hnn hdm5 (by rw [e5]; exact hlg) hgo
  obtain ⟨b, hb⟩ : ∃ b, b = S5.sync nm := ⟨_, rfl⟩
  rw [← hb] at hsy
  have HRb : Hid (R = b) := Lib.hid (HR.out.trans hb.symm)
  obtain ⟨S6, er6⟩ := b
  simp only at hsy
  have HSY := Lib.hid hsy
  have HL := Lib.hid hlg
  have HK5 := Lib.hid k5
  have HG := Lib.hid (And.intro hgw (And.intro hgy (And.intro hg5 hgo)))
  have HY := Lib.hid hylt
  clear hsy hlg k5 hgw hgy hg5 hgo hb hc5x hf5x hc5 hf5 hdm5 e5 hb4w hb4 hdb hb3 hSw HNEW HNM HX HR HNU k1 hylt HH
  go_wp2
  go_loopw [36] (fun i wr => i = .int .i64 0 ∧ wr = w5) (fun i _ => 0)
  case atStart => exact ⟨rfl, rfl⟩
  case round =>
   obtain ⟨rfl, rfl⟩ := hrel
   go_wp2_with fail
   with_reducible refine HSY.out.mono ?_
   rintro e w6 ⟨rfl, X6, e6, hd6, hc6, hf6⟩
   obtain ⟨k6, hc6x, hf6x⟩ := HK5.out.diskE e6 hd6 hc6 hf6
   have hl6 := HL.out.chg hc6 HG.out.2.2.2
   have hg6 : g ∉ XY X6 Y := fun hm => by
    rcases hf6x g hm with q | q
    ·exact HG.out.2.1 q
    ·have := HG.out.2.2.1
     omega
   have HZ := Lib.hid (And.intro k6 (And.intro hl6 hg6))
   clear k6 hl6 hg6 hc6 hf6 hd6 e6 hc6x hf6x HSY
   go_wp2
   refine bodyPost_ret (v := .tuple #[.pointer (some ⟨g, 0, none⟩), .int .i64 n, .int .i64 (er6 : Int)]) (by simp [results, go_sem]) rfl ?_
   rw [HRb.out]
   exact ⟨_, _, X6, rfl, HZ.out.1.d, HZ.out.1.at_, HZ.out.1.c, HZ.out.1.f, fun _ => ⟨g, rfl, rfl, by rw [← HNM2.out]; exact HZ.out.2.1, HG.out.1, HZ.out.2.2⟩⟩
 ·rw [if_pos he5] at hR
  have hnew2 : ∀ W, Below w.heap.size w W → Calls Tryz.prog 127 #[.pointer (some ⟨X.d, 0, none⟩), .string (str nm)] W fun e w' => ∃ X', e = .returned (.tuple #[.pointer none, .int .i64 (er5 : Int)]) ∧ X'.d = X.d ∧ Dm w' X' S5 ∧ Chg X.foot W w' ∧ (∀ g ∈ X'.foot, g ∈ X.foot ∨ W.heap.size ≤ g) := fun W hb => (hnew W hb).mono fun e w' ⟨X', q1, q2, q3, q4, q5⟩ => by
   rcases q5 with ⟨_, q⟩ | ⟨q, _⟩
   ·exact ⟨X', q, q1, q2, q3, q4⟩
   ·exact absurd q he5
  have HNEW := Lib.hid hnew2
  have HR := Lib.hid hR
  clear hnew hnew2 hR h
  go_enter Tryz.func97, Tryz.ntmps97
  go_wp2_with fail
  with_reducible refine HNU.out.mono ?_
  rintro e w3 ⟨rfl, hb3⟩
  have hdb := below_drew hb3
  go_wp2_with fail
  refine wp_region_held_drew (S := fun w' => BoxO w' 90 Y.s (Y.cells X.d V)) rfl (HX.out.below hdb) (fun hSw => ?_)
  refine wpT (i := 0) (v := ?vfs0) ?hfs0 hSw ?kfs0
  case hfs0 => (intro w hSw; (have k0 := hSw.cell 0; simp only [Yw.cells, gE0] at k0); go_simp; try (with_reducible rfl))
  go_simp
  refine wpT (i := 1) (v := ?vfs1) ?hfs1 hSw ?kfs1
  case hfs1 => (intro w hSw; (have k0 := hSw.cell 0; simp only [Yw.cells, gE0] at k0); go_simp; try (with_reducible rfl))
  go_simp
  refine wpT (i := 2) (v := ?vfs2) ?hfs2 hSw ?kfs2
  case hfs2 => (intro w hSw; (have k0 := hSw.cell 0; simp only [Yw.cells, gE0] at k0); go_simp; try (with_reducible rfl))
  go_simp
  refine wpT (i := 3) (v := ?vfs3) ?hfs3 hSw ?kfs3
  case hfs3 => (intro w hSw; (have k0 := hSw.cell 0; simp only [Yw.cells, gE0] at k0); go_simp; try (with_reducible rfl))
  go_simp
  refine wpT (i := 4) (v := ?vfs4) ?hfs4 hSw ?kfs4
  case hfs4 => (intro w hSw; (have k0 := hSw.cell 0; simp only [Yw.cells, gE0] at k0); go_simp; try (with_reducible rfl))
  go_simp
  refine wpAnyH_ready (rs := [5]) (by kernel_rfl) (by simp) ?_
  refine AllReadyH.cons rfl (fun K hK => ?_) AllReadyH.nil
  go_simp
  with_reducible refine (HNM.out _ hdb).mono ?_
  rintro e w4 ⟨rfl, hb4⟩
  go_simp
  refine hK.out _ _ (hSw.below hb4) (fun hSn => ?_)
  clear hK K hSw
  have hSw := hSn
  clear hSn
  go_simp
  refine wpAnyH_ready (rs := [6]) (by kernel_rfl) (by simp) ?_
  refine AllReadyH.cons rfl (fun K hK => ?_) AllReadyH.nil
  go_simp
  with_reducible refine (HNEW.out _ (later_ hdb hb4)).mono ?_
  rintro e w5 ⟨X5, rfl, e5, hdm5, hc5, hf5⟩
  go_simp
  refine hK.out _ _ (hSw.chg hc5 (HH.out.apart.x _ (Yw.mem_foot.2 (.inl rfl)))) (fun hSn => ?_)
  clear hK K hSw
  have hSw := hSn
  clear hSn
  go_simp
  refine wpT (i := 7) (v := ?vfs7) ?hfs7 hSw ?kfs7
  case hfs7 => (intro w hSw; (have k0 := hSw.cell 0; simp only [Yw.cells, gE0] at k0); go_simp; try (with_reducible rfl))
  go_simp
  refine wpT (i := 8) (v := ?vfs8) ?hfs8 hSw ?kfs8
  case hfs8 => (intro w hSw; (have k0 := hSw.cell 0; simp only [Yw.cells, gE0] at k0); go_simp; try (with_reducible rfl))
  go_simp
  refine wpT (i := 9) (v := ?vfs9) ?hfs9 hSw ?kfs9
  case hfs9 => (intro w hSw; (have k0 := hSw.cell 0; simp only [Yw.cells, gE0] at k0); go_simp; try (with_reducible rfl))
  go_simp
  refine wpT (i := 10) (v := ?vfs10) ?hfs10 hSw ?kfs10
  case hfs10 => (intro w hSw; (have k0 := hSw.cell 0; simp only [Yw.cells, gE0] at k0); go_simp; try (with_reducible rfl))
  go_simp
  refine wpT (i := 11) (v := ?vfs11) ?hfs11 hSw ?kfs11
  case hfs11 => (intro w hSw; (have k0 := hSw.cell 0; simp only [Yw.cells, gE0] at k0); go_simp; try (with_reducible rfl))
  go_simp
  refine wpAnyH_done (by kernel_rfl) ?_ _
  obtain ⟨k5, _, _⟩ := (k1.below (later_ hdb hb4)).diskE e5 hdm5 hc5 hf5
  have e5i : ((er5 : Int) == 0) = false := by simp; omega
  have HZ := Lib.hid k5
  have HE := Lib.hid he5
  clear k5 hc5 hf5 hdm5 e5 hb4 hdb hb3 hSw HNEW HNM HX HNU k1 HH he5
  go_wp2
  refine bodyPost_ret (v := .tuple #[.pointer none, .int .i64 0, .int .i64 (er5 : Int)]) (by simp [results, go_sem]) rfl ?_
  rw [HR.out]
  exact ⟨_, _, _, rfl, HZ.out.d, HZ.out.at_, HZ.out.c, HZ.out.f, fun h0 => absurd h0 HE.out⟩
end
section
open Go Go.RowKit Go.Lib Go.Shelf
variable {w w1 w2 : World} {X X1 X2 : Dw} {S S1 S2 : Sd} {Y Y1 Y2 : Yw} {V V1 V2 : Sv}
theorem info_held : (Tryz.prog.info? 169).map (fun i => (i.zero, i.size, i.bytes)) = some (some (.agg #[.int .i64 0, .int .i64 0, .pointer none]), 3, 24) := by kernel_rfl
theorem hcells_one (q : List Tq) : ∀ u ∈ hcells q, u.oneCell' = true := by
 intro u hu
 simp only [hcells, List.mem_flatMap, List.mem_cons, List.not_mem_nil, or_false] at hu
 obtain ⟨a, _, rfl | rfl | rfl⟩ := hu <;> rfl
theorem hclone_any (A : Option Addr) (n c : Nat) (q : List Tq) (w : World) (hn : n ≤ 1000000) (h0 : A = none → n = 0 ∧ c = 0) (hr : Row w.heap.size w A n 3 (hcells q)) :
  Calls Tryz.prog 92 #[.slice A n c] w fun e w' => ∃ A' c', e = .returned (.slice A' n c') ∧ w'.ownsRow w.heap.size 169 3 (.slice A' n c') n (hcells q) ∧ Below w.heap.size w w' := by
 obtain ⟨i0, hi0, hz0, hz1, hz2⟩ := info_parts info_held
 have HR := Lib.hid hr
 have hlen := hr.len
 clear hr
 cases A with
 | none =>
  obtain ⟨rfl, rfl⟩ := h0 rfl
  rw [hcells_length] at hlen
  have hq : q = [] := List.length_eq_zero_iff.1 (by omega)
  subst hq
  clear HR hlen
  have hnil : ∀ W, (binOp .eql 73 (.slice none 0 0) (.slice none 0 0)).run Tryz.prog W = .ok (.bool true) W := fun W => by kernel_rfl
  go_enter Tryz.func92, Tryz.ntmps92
  go_wp2
  go_ret
  exact ⟨none, 0, rfl, World.ownsRow_nil _ _ _ _, Below.refl _ _⟩
 | some p =>
  clear hlen h0
  go_enter Tryz.func92, Tryz.ntmps92
  have ho0 : (w.alloc (.cells #[] 169)).ownsRow w.heap.size 169 3 (.slice (some ⟨w.heap.size, 0, none⟩) 0 0) 0 [] := ⟨rfl, .inr ⟨w.heap.size, 0, #[], rfl, Nat.le_refl _, heap_alloc_new w _, Nat.le_refl _, by decide, rfl, rfl⟩⟩
  have hb0 := (Below.refl w.heap.size w).alloc (Nat.le_refl _) (.cells #[] 169)
  have HO := Lib.hid ho0
  have HB := Lib.hid hb0
  have HR2 := Lib.hid (HR.out.below hb0)
  clear ho0 hb0
  have hnil : ∀ W, (binOp .eql 73 (.slice (some p) n c) (.slice none 0 0)).run Tryz.prog W = .ok (.bool false) W := fun W => Lib.run_eql_slice_some_nil (e := 169) W _ _ _ (by kernel_rfl)
  go_wp2_with (at_builtin; refine stop_in ?_)
  refine stop_out (wpList_app rfl (.tmp 5) (.tmp 6) _ rfl w.heap.size 169 i0 _ 3 24 Tryz.underlying73 hi0 hz0 hz1 hz2 rfl (by omega) w HB.out HB.out.size _ 0 [] rfl HO.out w.heap.size _ n c (hcells q) rfl HR2.out (hcells_one q) n _ (Nat.zero_add n) (List.nil_append _) (by unfold maxLen; omega) (by omega) ?_)
  intro A3 c3 w3 z1 z2 z3 z4 z5
  have HF := Lib.hid z1
  clear z1 z3 HO HB HR2
  go_wp2
  go_ret
  exact ⟨A3, c3, rfl, HF.out, z2⟩
theorem sflush1_any {w0 : World} {X0 : Dw} {S0 : Sd} {P1 : Sl} {M1 : Gs} {b1 : Bool} (h0 : SvAt w0 X0 S0 Y V) (hc : Chg (XY X0 Y) w0 w1) (hf : ∀ g ∈ XY X1 Y, g ∈ XY X0 Y ∨ w0.heap.size ≤ g) (h : SvAt w1 X1 S1 { Y with P := P1 } { V with M := M1, only := b1 })
  (gt gg gs g' : Nat) (T : Sl) (q : List Tq) (n : Int) (ts : List ((Int × Int) × List (List It))) (bt : BoxO w1 73 gt [.slice T.a T.n T.c]) (bg : BoxO w1 71 gg [.pointer (some ⟨g', 0, none⟩)]) (bs : BoxO w1 30 gs [.pointer (some ⟨Y.s, 0, none⟩)])
  (ngt : gt ≠ Y.s) (ngg : gg ≠ Y.s) (ngs : gs ≠ Y.s) (hl : LgAt w1 g' X1.d (Mn.name Mn.kLog n) 0 0) (hg0 : w0.heap.size ≤ g') (hg1 : g' ∉ XY X1 Y) (hP : P1 = Y.P ∨ ∀ a, P1.a = some a → g' < a.block) (ht : Fixed (g' :: XY X1 Y) w1 fun w => TabsAt w T q ts) :
  Calls Tryz.prog 99 #[.pointer (some ⟨gt, 0, none⟩), .pointer (some ⟨gg, 0, none⟩), .pointer (some ⟨gs, 0, none⟩)] w1 fun e w' => e = .returned (.tuple #[]) ∧ SvUpdB w0.heap.size X1 { Y with P := P1 } w1 w' S1 (St.turned n ts { V with M := M1, only := b1 }) := by
 have hyl := h.lt
 have hnx : ∀ g ∈ Y.foot, g ∉ X1.foot := h.apart.x
 have aps : Y.s ∉ Y.m :: Y.g :: Y.mm :: skF Y.L Y.ns := h.apart.s
 have apm : Y.m ∉ Y.g :: Y.mm :: skF Y.L Y.ns := h.apart.m
 have hsx : Y.s ∈ Y.foot := Yw.mem_foot.2 (.inl rfl)
 have hmx : Y.m ∈ Y.foot := Yw.mem_foot.2 (.inr (.inl rfl))
 have hgl := hl.lt
 have hfin : ∀ (mm L : Nat) (ns : List Nd) (w' : World), Chg [Y.s] w1 w' → BoxO w' 90 Y.s ({ Y with P := P1, g := g', mm := mm, L := L, ns := ns, T := T, q := q }.cells X1.d { V with M := M1, only := b1 }) → MmAt w' mm L ns → its ns = [] → (∀ g ∈ mm :: skF L ns, w1.heap.size ≤ g) → SvUpdB w0.heap.size X1 { Y with P := P1 } w1 w' S1 (St.turned n ts { V with M := M1, only := b1 }) := by
  intro mm L ns w' c hbx hmm hits hlow
  have c2 : Chg (XY X1 Y) w1 w' := c.mono fun g hg => .inl (by rw [List.mem_singleton.1 hg]; exact List.mem_append_right _ hsx)
  have hf2 : ∀ g ∈ XY X1 { Y with P := P1, g := g', mm := mm, L := L, ns := ns, T := T, q := q }, g = g' ∨ g ∈ XY X1 Y ∨ w1.heap.size ≤ g := fun g hg => by
   rcases List.mem_append.1 hg with q | q
   ·exact .inr (.inl (List.mem_append_left _ q))
   ·rcases Yw.mem_foot.1 q with q | q | q | q | q
    ·exact .inr (.inl (List.mem_append_right _ (Yw.mem_foot.2 (.inl q))))
    ·exact .inr (.inl (List.mem_append_right _ (Yw.mem_foot.2 (.inr (.inl q)))))
    ·exact .inl q
    ·exact .inr (.inr (hlow g (by rw [show g = mm from q]; exact List.mem_cons_self)))
    ·exact .inr (.inr (hlow g (List.mem_cons_of_mem _ q)))
  have hs1 : Y.s < w1.heap.size := hyl _ (List.mem_append_right _ hsx)
  have hm1 : Y.m < w1.heap.size := hyl _ (List.mem_append_right _ hmx)
  have hgm : g' ∉ mm :: skF L ns := fun hm => by have := hlow g' hm; omega
  refine ⟨X1, { Y with P := P1, g := g', mm := mm, L := L, ns := ns, T := T, q := q }, rfl, rfl, ⟨h.dm.chg c (fun g hg => by rw [List.mem_singleton.1 hg]; exact ⟨hnx _ hsx, h.ng _ hsx⟩), hbx, h.man.chg c (fun hm => aps (by rw [← List.mem_singleton.1 hm]; exact List.mem_cons_self)), ?_, ?_, hl.chg c (fun hm => hg1 (by rw [List.mem_singleton.1 hm]; exact List.mem_append_right _ hsx)), hmm, hits, ht.step (c.mono fun g hg => .inl (by rw [List.mem_singleton.1 hg]; exact List.mem_cons_of_mem _ (List.mem_append_right _ hsx))) (fun g hg => ?_), h0.st.step (hc.trans c2 hf) (fun g hg => ?_), ⟨?_, ?_, ?_, hgm⟩, ?_⟩, c2, fun g hg => ?_⟩
  ·exact ⟨(row_chg c h.row.row (Nat.le_refl _) (fun j hj a ha hm => h.pout j hj a ha (by rw [List.mem_singleton.1 hm]; exact hsx))).up c.size, h.row.nc, h.row.cm, h.row.nb, h.row.away⟩
  ·intro j hj a ha hm
   have hp := h.pout j hj a ha
   obtain ⟨a', e, q1, _⟩ := h.row.row.cell j hj
   rw [ha] at e
   injection e with e
   subst e
   rcases Yw.mem_foot.1 hm with q | q | q | q | q
   ·exact hp (Yw.mem_foot.2 (.inl q))
   ·exact hp (Yw.mem_foot.2 (.inr (.inl q)))
   ·have q2 : a.block = g' := q
    rcases hP with rfl | hP
    ·obtain ⟨a', e, q3, _⟩ := h0.row.row.cell j (by
      have l1 := h.row.row.len
      have l2 := h0.row.row.len
      rw [l2, ← l1]
      exact hj)
     rw [ha] at e
     injection e with e
     subst e
     omega
    ·have := hP a ha
     omega
   ·have := hlow _ (show a.block ∈ mm :: skF L ns by rw [show a.block = mm from q]; exact List.mem_cons_self)
    omega
   ·have := hlow _ (List.mem_cons_of_mem mm q)
    omega
  ·rcases hf2 g hg with q | q | q
   ·exact .inl (by rw [q]; exact List.mem_cons_self)
   ·exact .inl (List.mem_cons_of_mem _ q)
   ·exact .inr q
  ·rcases hf2 g hg with q | q | q
   ·exact .inr (by rw [q]; exact hg0)
   ·exact hf g q
   ·exact .inr (Nat.le_trans hc.size q)
  ·intro g hg hm
   have hm2 := hyl g (List.mem_append_left _ hm)
   rcases hf2 g (List.mem_append_right _ hg) with q | q | q
   ·exact hg1 (List.mem_append_left _ (by rw [← q]; exact hm))
   ·rcases List.mem_append.1 q with q2 | q2
    ·rcases Yw.mem_foot.1 hg with q | q | q | q | q
     ·exact hnx _ hsx (by rw [← show g = Y.s from q]; exact hm)
     ·exact hnx _ hmx (by rw [← show g = Y.m from q]; exact hm)
     ·exact hg1 (List.mem_append_left _ (by rw [← show g = g' from q]; exact hm))
     ·have := hlow g (by rw [show g = mm from q]; exact List.mem_cons_self)
      omega
     ·have := hlow g (List.mem_cons_of_mem _ q)
      omega
    ·exact hnx g q2 hm
   ·omega
  ·intro hm
   rcases List.mem_cons.1 hm with q | q
   ·exact aps (by rw [show Y.s = Y.m from q]; exact List.mem_cons_self)
   ·rcases List.mem_cons.1 q with q | q
    ·exact hg1 (by rw [← show Y.s = g' from q]; exact List.mem_append_right _ hsx)
    ·have := hlow Y.s q
     omega
  ·intro hm
   rcases List.mem_cons.1 hm with q | q
   ·exact hg1 (by rw [← show Y.m = g' from q]; exact List.mem_append_right _ hmx)
   ·have := hlow Y.m q
    omega
  ·intro g hg
   have hb := h.dm.env.base
   have hb0 := h0.dm.env.base
   rcases hf2 g (List.mem_append_right _ hg) with q | q | q
   ·omega
   ·rcases List.mem_append.1 q with q2 | q2
    ·exact h.dm.base g q2
    ·exact h.ng g q2
   ·omega
  ·rcases hf2 g hg with q | q | q
   ·exact .inr (by omega)
   ·exact .inl q
   ·exact .inr (Nat.le_trans hc.size q)
 have hmn := mmnew_any w1.drew
 have HF := Lib.hid hfin
 have HMN := Lib.hid hmn
 have HB := Lib.hid h.box
 have HN := Lib.hid (And.intro ngt (And.intro ngg ngs))
 have HT3 : Hid (BoxO w1.drew 73 gt [.slice T.a T.n T.c] ∧ BoxO w1.drew 71 gg [.pointer (some ⟨g', 0, none⟩)] ∧ BoxO w1.drew 30 gs [.pointer (some ⟨Y.s, 0, none⟩)]) := Lib.hid ⟨bt, bg, bs⟩
 clear hfin hmn h bt bg bs ngt ngg ngs h0 hc hf hyl hnx aps apm hsx hmx hgl hl hg0 hg1 hP ht
 have hs3 : ∀ (W : World) (j : Nat) (u : Value), (BoxO W 73 gt [.slice T.a T.n T.c] ∧ BoxO W 71 gg [.pointer (some ⟨g', 0, none⟩)] ∧ BoxO W 30 gs [.pointer (some ⟨Y.s, 0, none⟩)]) → (BoxO (W.setCell ⟨Y.s, j, none⟩ u) 73 gt [.slice T.a T.n T.c] ∧ BoxO (W.setCell ⟨Y.s, j, none⟩ u) 71 gg [.pointer (some ⟨g', 0, none⟩)] ∧ BoxO (W.setCell ⟨Y.s, j, none⟩ u) 30 gs [.pointer (some ⟨Y.s, 0, none⟩)]) := fun W j u ⟨a, b, c⟩ => by
  have k : Chg [Y.s] W (W.setCell ⟨Y.s, j, none⟩ u) := (Chg.refl _ _).setCell _ (.inl (by simp))
  exact ⟨a.chg k (by simpa using HN.out.1), b.chg k (by simpa using HN.out.2.1), c.chg k (by simpa using HN.out.2.2)⟩
 have HS3 := Lib.hid hs3
 clear hs3
 go_enter Tryz.func99, Tryz.ntmps99
 go_wp2_with fail
 refine wp_region_held_drew (S := fun w' => BoxO w' 73 gt [.slice T.a T.n T.c] ∧ BoxO w' 71 gg [.pointer (some ⟨g', 0, none⟩)] ∧ BoxO w' 30 gs [.pointer (some ⟨Y.s, 0, none⟩)]) rfl HT3.out (fun hSw => ?_)
 refine wpT (i := 0) (v := ?vf10) ?hf10 hSw ?kf10
 case hf10 => (intro w hSw; (have k0 := hSw.1.cell 0; have k1 := hSw.2.1.cell 0; have k2 := hSw.2.2.cell 0; simp only [gE0] at k0 k1 k2); go_simp; try (with_reducible rfl))
 go_simp
 refine wpT (i := 1) (v := ?vf11) ?hf11 hSw ?kf11
 case hf11 => (intro w hSw; (have k0 := hSw.1.cell 0; have k1 := hSw.2.1.cell 0; have k2 := hSw.2.2.cell 0; simp only [gE0] at k0 k1 k2); go_simp; try (with_reducible rfl))
 go_simp
 refine wpT (i := 2) (v := ?vf12) ?hf12 hSw ?kf12
 case hf12 => (intro w hSw; (have k0 := hSw.1.cell 0; have k1 := hSw.2.1.cell 0; have k2 := hSw.2.2.cell 0; simp only [gE0] at k0 k1 k2); go_simp; try (with_reducible rfl))
 go_simp
 refine wpT (i := 3) (v := ?vf13) ?hf13 hSw ?kf13
 case hf13 => (intro w hSw; (have k0 := hSw.1.cell 0; have k1 := hSw.2.1.cell 0; have k2 := hSw.2.2.cell 0; simp only [gE0] at k0 k1 k2); go_simp; try (with_reducible rfl))
 go_simp
 refine wpT (i := 4) (v := ?vf14) ?hf14 hSw ?kf14
 case hf14 => (intro w hSw; (have k0 := hSw.1.cell 0; have k1 := hSw.2.1.cell 0; have k2 := hSw.2.2.cell 0; simp only [gE0] at k0 k1 k2); go_simp; try (with_reducible rfl))
 go_simp
 refine wpAnyH_ready (rs := [5]) (by kernel_rfl) (by simp) ?_
 refine AllReadyH.cons rfl (fun K hK => ?_) AllReadyH.nil
 go_simp
 with_reducible refine HMN.out.mono ?_
 rintro e w3 ⟨mm, L, ns, rfl, hmm, hits, hb3, hlow⟩
 go_simp
 refine hK.out _ _ ⟨hSw.1.below hb3, hSw.2.1.below hb3, hSw.2.2.below hb3⟩ (fun hSn => ?_)
 clear hK K hSw
 have hSw := hSn
 clear hSn
 go_simp
 refine wpT (i := 6) (v := ?vf16) ?hf16 hSw ?kf16
 case hf16 => (intro w hSw; (have k0 := hSw.1.cell 0; have k1 := hSw.2.1.cell 0; have k2 := hSw.2.2.cell 0; simp only [gE0] at k0 k1 k2); go_simp; try (with_reducible rfl))
 go_simp
 refine wpT (i := 7) (v := ?vf17) ?hf17 hSw ?kf17
 case hf17 => (intro w hSw; (have k0 := hSw.1.cell 0; have k1 := hSw.2.1.cell 0; have k2 := hSw.2.2.cell 0; simp only [gE0] at k0 k1 k2); go_simp; try (with_reducible rfl))
 go_simp
 refine wpAnyH_ready (rs := [8]) (by kernel_rfl) (by simp) ?_
 refine AllReadyH.cons rfl (fun K hK => ?_) AllReadyH.nil
 (have hB := BoxO.below (show BoxO w1.drew _ _ _ from HB.out) hb3; have qq := hB.cell 4; have z := hB.free 4; simp only [Yw.cells, gE0, gE1] at qq)
 go_simp
 refine hK.out _ _ (HS3.out _ _ _ hSw) (fun hSn => ?_)
 clear hK K hSw
 have hSw := hSn
 clear hSn
 go_simp
 refine wpT (i := 9) (v := ?vf19) ?hf19 hSw ?kf19
 case hf19 => (intro w hSw; (have k0 := hSw.1.cell 0; have k1 := hSw.2.1.cell 0; have k2 := hSw.2.2.cell 0; simp only [gE0] at k0 k1 k2); go_simp; try (with_reducible rfl))
 go_simp
 refine wpT (i := 10) (v := ?vf110) ?hf110 hSw ?kf110
 case hf110 => (intro w hSw; (have k0 := hSw.1.cell 0; have k1 := hSw.2.1.cell 0; have k2 := hSw.2.2.cell 0; simp only [gE0] at k0 k1 k2); go_simp; try (with_reducible rfl))
 go_simp
 refine wpAnyH_ready (rs := [11]) (by kernel_rfl) (by simp) ?_
 refine AllReadyH.cons rfl (fun K hK => ?_) AllReadyH.nil
 (have hB2 := hB.store 4 (.slice T.a T.n T.c); have q2 := hB2.cell 2; have z2 := hB2.free 2; simp only [Yw.cells, List.set, gE0, gE1] at q2)
 go_simp
 refine hK.out _ _ (HS3.out _ _ _ hSw) (fun hSn => ?_)
 clear hK K hSw
 have hSw := hSn
 clear hSn
 go_simp
 refine wpT (i := 12) (v := ?vf112) ?hf112 hSw ?kf112
 case hf112 => (intro w hSw; (have k0 := hSw.1.cell 0; have k1 := hSw.2.1.cell 0; have k2 := hSw.2.2.cell 0; simp only [gE0] at k0 k1 k2); go_simp; try (with_reducible rfl))
 go_simp
 refine wpT (i := 13) (v := ?vf113) ?hf113 hSw ?kf113
 case hf113 => (intro w hSw; (have k0 := hSw.1.cell 0; have k1 := hSw.2.1.cell 0; have k2 := hSw.2.2.cell 0; simp only [gE0] at k0 k1 k2); go_simp; try (with_reducible rfl))
 go_simp
 refine wpAnyH_ready (rs := [14]) (by kernel_rfl) (by simp) ?_
 refine AllReadyH.cons rfl (fun K hK => ?_) AllReadyH.nil
 (have hB3 := hB2.store 2 (.pointer (some ⟨g', 0, none⟩)); have q3 := hB3.cell 3; have z3 := hB3.free 3; simp only [Yw.cells, List.set, gE0, gE1] at q3)
 go_simp
 refine hK.out _ _ (HS3.out _ _ _ hSw) (fun hSn => ?_)
 clear hK K hSw
 have hSw := hSn
 clear hSn
 go_simp
 refine wpAnyH_done (by kernel_rfl) ?_ _
 have hB4 := hB3.store 3 (.pointer (some ⟨mm, 0, none⟩))
 have hcc : Chg [Y.s] w3 (((w3.setCell ⟨Y.s, 4, none⟩ (.slice T.a T.n T.c)).setCell ⟨Y.s, 2, none⟩ (.pointer (some ⟨g', 0, none⟩))).setCell ⟨Y.s, 3, none⟩ (.pointer (some ⟨mm, 0, none⟩))) := (((Chg.refl [Y.s] w3).setCell _ (.inl (by simp))).setCell _ (.inl (by simp))).setCell _ (.inl (by simp))
 have hsl : Y.s < w1.heap.size := BoxO.lt HB.out
 have hz := HF.out mm L ns _ ((Chg.of_below (below_drew (Below.refl _ _) |>.trans hb3) [Y.s]).trans hcc (fun g hg => .inl hg)) hB4 (hmm.chg hcc (fun g hg hm => by
  have q1 := hlow g hg
  have q2 := List.mem_singleton.1 hm
  have q3 : w1.drew.heap.size = w1.heap.size := rfl
  omega)) hits hlow
 have HZ := Lib.hid hz
 clear hz hB hB2 hB3 hB4 qq q2 q3 z z2 z3 hcc hmm hits hlow hSw HF HMN HS3 HT3 hb3 hsl
 go_wp2
 exact bodyPost_end (v := .tuple #[]) (by simp [results, go_sem]) rfl ⟨rfl, HZ.out⟩
end
section
open Go Go.RowKit Go.Lib
theorem keep_any (K : Nat) (hF : ∀ args w, (callFunc K args).run Tryz.prog w = .ok (.enter K args) w) (capt : Array Value) (P : It → Bool) (A : Option Addr) (n c : Nat) (l : List It) (w : World) (hn : n ≤ 1000000) (hr : Row w.heap.size w A n 5 (itc l))
  (hK : ∀ x w1, Below w.heap.size w w1 → Calls Tryz.prog K (#[x.val] ++ capt) w1 fun e w' => e = .returned (.bool (P x)) ∧ Below w1.heap.size w1 w') :
  Calls Tryz.prog 93 #[.slice A n c, .func (.func K) #[] capt] w (RefPost w (l.filter P)) := by
 have hnn := hr.itlen
 obtain ⟨i0, hi0, hz0, hz1, hz2⟩ := info_parts info_item
 have HF := Lib.hid hF
 have HK := Lib.hid hK
 clear hF hK
 go_enter Tryz.func93, Tryz.ntmps93
 go_wp2
 go_loopw [5, 10] (fun v i wr => ∃ (k q : Nat) (A2 : Option Addr) (c2 : Nat), k ≤ n ∧ v = .slice A2 q c2 ∧ i = .int .i64 (k : Int) ∧ Hid (q = ((l.take k).filter P).length ∧ wr.ownsRow w.heap.size 27 5 (.slice A2 q c2) q (itc ((l.take k).filter P))) ∧ Below w.heap.size w wr) (fun _ i _ => n - (intOf i).toNat)
 case atStart => exact ⟨0, 0, none, 0, Nat.zero_le _, rfl, rfl, Lib.hid ⟨rfl, World.ownsRow_nil _ _ _ _⟩, Below.refl _ _⟩
 case round =>
  obtain ⟨k, q, A2, c2, hk, rfl, rfl, HQ, hbl⟩ := hrel
  by_cases hlt : k < n
  ·obtain ⟨p, hl, rfl, hbk, c0, c1, c2', c3, c4⟩ := (hr.below hbl).it hlt
   have hft := filt_take (P := P) hl
   have hql : q ≤ 1000000 := by
    have h1 := HQ.out.1
    have h2 := List.length_filter_le P (l.take k)
    rw [List.length_take] at h2
    omega
   generalize l[k] = x at *
   have hbV := hbl.alloc hbl.size (.cells #[.int .i64 x.s, .int .i64 x.k, .int .u64 (x.t : Int), .int .u64 (x.v : Int), .int .i64 x.x] 27)
   have hbo := (Below.refl wr.heap.size wr).alloc (Nat.le_refl _) (.cells #[.int .i64 x.s, .int .i64 x.k, .int .u64 (x.t : Int), .int .u64 (x.v : Int), .int .i64 x.x] 27)
   have hbx : BoxO (wr.alloc (.cells #[.int .i64 x.s, .int .i64 x.k, .int .u64 (x.t : Int), .int .u64 (x.v : Int), .int .i64 x.x] 27)) 27 wr.heap.size x.cells := BoxO.new wr #[.int .i64 x.s, .int .i64 x.k, .int .u64 (x.t : Int), .int .u64 (x.v : Int), .int .i64 x.x] 27
   have hkk := HK.out x _ hbV
   unfold It.val at hkk
   obtain ⟨b, hb⟩ : ∃ b, b = P x := ⟨_, rfl⟩
   rw [← hb] at hkk hft
   have HKK := Lib.hid hkk
   have HFT := Lib.hid hft
   clear hkk hft hb
   go_wp2_with fail
   rw [HF.out, Oper.upon_enter]
   refine HKK.out.mono ?_
   rintro e w2 ⟨rfl, hb2⟩
   have hb3 := later_ hbV (hb2)
   have ho3 := own_below (own_below HQ.out.2 hbo) hb2
   have hbx2 := hbx.below hb2
   generalize wr.heap.size = g at *
   cases b with
   | false =>
    have H3 := Lib.hid (And.intro (show q = ((l.take (k + 1)).filter P).length by rw [HFT.out]; simpa using HQ.out.1) (show w2.ownsRow w.heap.size 27 5 (.slice A2 q c2) q (itc ((l.take (k + 1)).filter P)) by rw [HFT.out]; simpa using ho3))
    clear HKK HFT HQ ho3 hbx hbx2 hbo c0 c1 c2' c3 c4
    go_wp2
    go_roundw
    case rel => exact ⟨k + 1, q, A2, c2, by omega, rfl, by go_num, H3.out, hb3⟩
    case measure => simp [intOf]; omega
   | true =>
    have b0 := hbx2.cell 0
    have b1 := hbx2.cell 1
    have b2 := hbx2.cell 2
    have b3 := hbx2.cell 3
    have b4 := hbx2.cell 4
    simp only [It.cells, gE0, gE1] at b0 b1 b2 b3 b4
    have hvb : BoxO (w2.alloc (.cells #[.int .i64 x.s, .int .i64 x.k, .int .u64 (x.t : Int), .int .u64 (x.v : Int), .int .i64 x.x] 27)) 27 w2.heap.size x.cells := BoxO.new w2 #[.int .i64 x.s, .int .i64 x.k, .int .u64 (x.t : Int), .int .u64 (x.v : Int), .int .i64 x.x] 27
    have hbA := (Below.refl w2.heap.size w2).alloc (Nat.le_refl _) (.cells #[.int .i64 x.s, .int .i64 x.k, .int .u64 (x.t : Int), .int .u64 (x.v : Int), .int .i64 x.x] 27)
    have ho4 := own_below ho3 hbA
    have hb4 := later_ hb3 hbA
    have hrow := irow_box hvb
    have HX := Lib.hid (show itc ((l.take k).filter P) ++ x.cells = itc ((l.take (k + 1)).filter P) by rw [HFT.out, if_pos rfl, itc_append]; simp [itc])
    have HQ1 := Lib.hid (show q + 1 = ((l.take (k + 1)).filter P).length by rw [HFT.out, if_pos rfl, List.length_append, ← HQ.out.1]; rfl)
    have HR := Lib.hid hrow
    have HO := Lib.hid ho4
    have HB := Lib.hid hb4
    clear HKK HFT HQ ho3 ho4 hbx hbx2 hbo c0 c1 c2' c3 c4 hrow hvb hbA hb4
    go_wp2_with (at_builtin; refine stop_in ?_)
    refine stop_out (wpList_app rfl (.tmp 17) (.tmp 19) _ rfl w.heap.size 27 i0 _ 5 40 Tryz.underlying24 hi0 hz0 hz1 hz2 rfl (by omega) w HB.out HB.out.size _ q (itc ((l.take k).filter P)) rfl HO.out (w2.alloc (.cells #[.int .i64 x.s, .int .i64 x.k, .int .u64 (x.t : Int), .int .u64 (x.v : Int), .int .i64 x.x] 27)).heap.size _ 1 1 x.cells rfl HR.out (fun v hv => itc_one [x] v (by simpa [itc] using hv)) (q + 1) _ rfl HX.out (by unfold maxLen; omega) (by omega) ?_)
    intro A3 c3 w5 h1 h2 h3 h4 h5
    have H5 := Lib.hid (And.intro HQ1.out h1)
    clear h1 h3 HQ1 HX HR HO HB b0 b1 b2 b3 b4
    go_wp2
    go_roundw
    case rel => exact ⟨k + 1, q + 1, A3, c3, by omega, rfl, by go_num, H5.out, h2⟩
    case measure => simp [intOf]; omega
  ·have hall : l.take k = l := List.take_of_length_le (by omega)
   have hq := HQ.out
   rw [hall] at hq
   obtain ⟨A3, c3, hv, hqc, hqm, hlow⟩ := own_form hq.2
   injection hv with e1 e2 e3
   subst e1 e3
   have hits : Its w.heap.size wr A2 q c2 (l.filter P) := ⟨Row.own hq.2, hqc, hqm, fun p hp => (hlow p hp).1⟩
   have HFF := Lib.hid (And.intro hq.1 hits)
   clear hits hq hall hlow hqc hqm HQ
   go_wp2
   go_ret
   exact ⟨A2, q, c2, rfl, HFF.out.1, HFF.out.2, hbl⟩
end
section
open Go Go.RowKit Go.Lib
theorem it_equal (x y : It) (w : World) : (Op.equal 27 (.agg #[.int .i64 x.s, .int .i64 x.k, .int .u64 (x.t : Int), .int .u64 (x.v : Int), .int .i64 x.x]) (.agg #[.int .i64 y.s, .int .i64 y.k, .int .u64 (y.t : Int), .int .u64 (y.v : Int), .int .i64 y.x])).run Tryz.prog w = .ok (decide (x = y)) w := by
 have u3 := Tryz.underlying3
 have a3 := Tryz.isAgg3
 have z3 := Tryz.sizeOf3
 have u4 := Tryz.underlying25
 have a4 := Tryz.isAgg25
 have z4 := Tryz.sizeOf25
 have u5 := Tryz.underlying2
 have a5 := Tryz.isAgg2
 have z5 := Tryz.sizeOf2
 have hS : Tryz.prog.underlying 27 = some (.struct (Tryz.prog.fieldsOf 27)) := by kernel_rfl
 have hp : Tryz.prog.stoodInHeld 27 = false := by kernel_rfl
 have e0 : (Op.equal 27 (.agg #[.int .i64 x.s, .int .i64 x.k, .int .u64 (x.t : Int), .int .u64 (x.v : Int), .int .i64 x.x]) (.agg #[.int .i64 y.s, .int .i64 y.k, .int .u64 (y.t : Int), .int .u64 (y.v : Int), .int .i64 y.x])).run Tryz.prog w = (Op.equalIn 10000 27 (.agg #[.int .i64 x.s, .int .i64 x.k, .int .u64 (x.t : Int), .int .u64 (x.v : Int), .int .i64 x.x]) (.agg #[.int .i64 y.s, .int .i64 y.k, .int .u64 (y.t : Int), .int .u64 (y.v : Int), .int .i64 y.x])).run Tryz.prog w := by simp only [Op.equal, Op.maxDepth]
 rw [e0, show (10000 : Nat) = 9999 + 1 from rfl, run_equalIn_agg w 9999 27 _ _ hS hp]
 simp only [Program.fieldsOf, Tryz.underlying27]
 go_simp
 have e : decide (x = y) = (decide (x.s = y.s) && (decide (x.k = y.k) && (decide (x.t = y.t) && (decide (x.v = y.v) && decide (x.x = y.x))))) := by
  rw [← Bool.decide_and, ← Bool.decide_and, ← Bool.decide_and, ← Bool.decide_and]
  exact decide_eq_decide.2 ⟨fun h => by subst h; simp, fun ⟨h1, h2, h3, h4, h5⟩ => It.ext h1 h2 h3 h4 h5⟩
 rw [e]
 by_cases h1 : x.s = y.s <;> by_cases h2 : x.k = y.k <;> by_cases h3 : x.t = y.t <;> by_cases h4 : x.v = y.v <;> by_cases h5 : x.x = y.x <;> simp [h1, h2, h3, h4, h5] <;> omega
theorem it_checkKey (em : Bool) (x : It) (w : World) : (Instr.checkKey em 10000 27 (.agg #[.int .i64 x.s, .int .i64 x.k, .int .u64 (x.t : Int), .int .u64 (x.v : Int), .int .i64 x.x])).run Tryz.prog w = .ok () w := by
 kernel_rfl
theorem it_stays (x : It) (w : World) : (Instr.keyThatStays (.agg #[.int .i64 x.s, .int .i64 x.k, .int .u64 (x.t : Int), .int .u64 (x.v : Int), .int .i64 x.x]) (.agg #[.int .i64 x.s, .int .i64 x.k, .int .u64 (x.t : Int), .int .u64 (x.v : Int), .int .i64 x.x])).run Tryz.prog w = .ok (.agg #[.int .i64 x.s, .int .i64 x.k, .int .u64 (x.t : Int), .int .u64 (x.v : Int), .int .i64 x.x]) w := by
 simp [Instr.keyThatStays, Instr.sameBits]
theorem val_inj {x y : It} (h : x.val = y.val) : x = y := by
 unfold It.val at h
 injection h with h
 simp only [Array.mk.injEq, List.cons.injEq, Value.int.injEq, true_and, and_true] at h
 obtain ⟨h1, h2, h3, h4, h5⟩ := h
 exact It.ext h1 h2 (by omega) (by omega) h5
theorem it_find (x : It) (w : World) : ∀ (es : List MapEntry) (i : Nat), (∀ e ∈ es, ∃ y : It, e.key = y.val) →
  ((Instr.findAsking 27 x.val es i).run Tryz.prog w = .ok none w ∧ ∀ e ∈ es, e.key ≠ x.val) ∨ ∃ j e, (Instr.findAsking 27 x.val es i).run Tryz.prog w = .ok (some (i + j, e.val)) w ∧ es[j]? = some e ∧ e.key = x.val
 | [], i, _ => .inl ⟨by simp [Instr.findAsking], by simp⟩
 | a :: es, i, h => by
  obtain ⟨y, hy⟩ := h a List.mem_cons_self
  have he := it_equal x y w
  by_cases hxy : x = y
  ·subst hxy
   refine .inr ⟨0, a, ?_, rfl, hy⟩
   unfold It.val at hy ⊢
   simp [Instr.findAsking, hy, he]
  ·rcases it_find x w es (i + 1) (fun e he => h e (List.mem_cons_of_mem _ he)) with ⟨h1, h2⟩ | ⟨j, e, h1, h2, h3⟩
   ·refine .inl ⟨?_, fun e hm => ?_⟩
    ·unfold It.val at hy h1 ⊢
     simp [Instr.findAsking, hy, he, hxy, h1]
    ·rcases List.mem_cons.1 hm with rfl | hm
     ·intro e2
      rw [hy] at e2
      exact hxy (val_inj e2).symm
     ·exact h2 e hm
   ·refine .inr ⟨j + 1, e, ?_, by simpa using h2, h3⟩
    unfold It.val at hy h1 ⊢
    simp [Instr.findAsking, hy, he, hxy, h1]
    omega
theorem it_findKey (x : It) (w : World) (es : List MapEntry) (h : ∀ e ∈ es, ∃ y : It, e.key = y.val) :
  ((Instr.findKey 27 x.val es).run Tryz.prog w = .ok none w ∧ ∀ e ∈ es, e.key ≠ x.val) ∨ ∃ j e, (Instr.findKey 27 x.val es).run Tryz.prog w = .ok (some (j, e.val)) w ∧ es[j]? = some e ∧ e.key = x.val := by
 have hS : Tryz.prog.underlying 27 = some (.struct (Tryz.prog.fieldsOf 27)) := by kernel_rfl
 cases es with
 | nil =>
  refine .inl ⟨?_, by simp⟩
  simp [Instr.findKey, run_underlying hS, Instr.findNow]
 | cons a es =>
  obtain ⟨y, hy⟩ := h a List.mem_cons_self
  have hn : Instr.findNow (.struct (Tryz.prog.fieldsOf 27)) x.val (a :: es) 0 = none := by
   unfold Instr.findNow
   rw [hy]
   rfl
  have hf : (Instr.findKey 27 x.val (a :: es)).run Tryz.prog w = (Instr.findAsking 27 x.val (a :: es)).run Tryz.prog w := by
   simp [Instr.findKey, run_underlying hS, hn]
  rw [hf]
  rcases it_find x w (a :: es) 0 h with h1 | ⟨j, e, h1, h2, h3⟩
  ·exact .inl h1
  ·exact .inr ⟨j, e, by simpa using h1, h2, h3⟩
def MpI (es : List MapEntry) (clock : Nat) (M : List It) (B : Nat) : Prop :=
 (∀ e ∈ es, (∃ y ∈ M, e.key = y.val) ∧ (∃ c : Nat, 1 ≤ c ∧ c ≤ B ∧ e.val = .int .i64 (c : Int)) ∧ e.born < clock) ∧ ∀ y ∈ M, ∃ e ∈ es, e.key = y.val
def MpAt (w : World) (b : Nat) (M : List It) (B : Nat) : Prop := ∃ es clock, w.heap[b]? = some (.map es clock) ∧ MpI es.toList clock M B
def MpMid (w : World) (b : Nat) (M : List It) (x : It) (st B : Nat) : Prop := ∃ es clock, w.heap[b]? = some (.map es clock) ∧
 (∀ e ∈ es.toList, (∃ y ∈ M ++ [x], e.key = y.val) ∧ e.born < clock) ∧ (∀ y ∈ M ++ [x], ∃ e ∈ es.toList, e.key = y.val) ∧ (∃ i : Nat, es.toList.findIdx? (fun e => ((e.born : Nat) : Int) == ((st : Nat) : Int)) = some i ∧
  ∀ (j : Nat) e, es.toList[j]? = some e → (∃ c : Nat, c ≤ B ∧ e.val = .int .i64 (c : Int) ∧ (j ≠ i → 1 ≤ c)))
theorem MpAt.look {w : World} {b : Nat} {M : List It} {B : Nat} (h : MpAt w b M B) (x : It) : ∃ c : Nat, c ≤ B ∧ (decide (0 < c) = decide (x ∈ M)) ∧ (Instr.lookup 248 (.map (some b)) x.val false).run Tryz.prog w = .ok (.int .i64 (c : Int)) w := by
 obtain ⟨es, clock, hb, h1, h2⟩ := h
 have ht : Tryz.prog.underlying 248 = some (.map 27 3) := by kernel_rfl
 have hz : (zeroValue 3).run Tryz.prog w = .ok (.int .i64 0) w := by kernel_rfl
 have hck := it_checkKey es.isEmpty x w
 rcases it_findKey x w es.toList (fun e he => let ⟨y, _, h⟩ := (h1 e he).1; ⟨y, h⟩) with ⟨k1, k2⟩ | ⟨j, e, k1, k2, k3⟩
 ·refine ⟨0, Nat.zero_le _, ?_, ?_⟩
  ·have : x ∉ M := fun hm => by
    obtain ⟨e, he, hk⟩ := h2 x hm
    exact k2 e he hk
   simp [this]
  ·unfold It.val at k1 ⊢
   simp [Instr.lookup, run_underlying ht, MapKept.run_getObj_map hb, hck, k1, hz]
 ·have he := List.mem_of_getElem? k2
  obtain ⟨⟨y, hy, hk⟩, ⟨c, c1, c2, c3⟩, _⟩ := h1 e he
  refine ⟨c, c2, ?_, ?_⟩
  ·have : x = y := val_inj (k3.symm.trans hk)
   subst this
   simp [hy]
   omega
  ·unfold It.val at k1 ⊢
   simp [Instr.lookup, run_underlying ht, MapKept.run_getObj_map hb, hck, k1, c3]
theorem MpMid.look {w : World} {b : Nat} {M : List It} {x : It} {st B : Nat} (h : MpMid w b M x st B) (y : It) : ∃ c : Nat, c ≤ B ∧ (Instr.lookup 248 (.map (some b)) y.val false).run Tryz.prog w = .ok (.int .i64 (c : Int)) w := by
 obtain ⟨es, clock, hb, h1, h2, i, h3, h4⟩ := h
 have ht : Tryz.prog.underlying 248 = some (.map 27 3) := by kernel_rfl
 have hz : (zeroValue 3).run Tryz.prog w = .ok (.int .i64 0) w := by kernel_rfl
 have hck := it_checkKey es.isEmpty y w
 rcases it_findKey y w es.toList (fun e he => let ⟨y, _, h⟩ := (h1 e he).1; ⟨y, h⟩) with ⟨k1, k2⟩ | ⟨j, e, k1, k2, k3⟩
 ·refine ⟨0, Nat.zero_le _, ?_⟩
  unfold It.val at k1 ⊢
  simp [Instr.lookup, run_underlying ht, MapKept.run_getObj_map hb, hck, k1, hz]
 ·obtain ⟨c, c1, c2, _⟩ := h4 j e k2
  refine ⟨c, c1, ?_⟩
  unfold It.val at k1 ⊢
  simp [Instr.lookup, run_underlying ht, MapKept.run_getObj_map hb, hck, k1, c2]
abbrev putB (w : World) (b : Nat) (o : Obj) : World := { w with heap := w.heap.setIfInBounds b o }
theorem putB_heap {w : World} {b : Nat} {o : Obj} (hb : b < w.heap.size) : (putB w b o).heap[b]? = some o := by
 simp [putB, hb]
theorem putB_grown (w : World) (b : Nat) (o : Obj) : w.grownBy (putB w b o) (some b) := ⟨rfl, rfl, rfl, by simp, fun k _ hk => by
 simp only [putB]
 rw [Array.getElem?_setIfInBounds_ne (fun e => hk (by rw [e]))]⟩
theorem MpAt.entry {w : World} {b : Nat} {M : List It} {B : Nat} (h : MpAt w b M B) (x : It) : ∃ (v0 : Value) (st : Nat) (o : Obj), (Instr.mapEntry 248 (.map (some b)) x.val).run Tryz.prog w = .ok (.tuple #[v0, .int .i64 (st : Int)]) (putB w b o) ∧ MpMid (putB w b o) b M x st B := by
 obtain ⟨es, clock, hb, h1, h2⟩ := h
 have hlt := (Array.getElem?_eq_some_iff.1 hb).1
 have ht : Tryz.prog.underlying 248 = some (.map 27 3) := by kernel_rfl
 have hz : (zeroValue 3).run Tryz.prog w = .ok (.int .i64 0) w := by kernel_rfl
 have hck := it_checkKey false x w
 have hst := it_stays x w
 rcases it_findKey x w es.toList (fun e he => let ⟨y, _, h⟩ := (h1 e he).1; ⟨y, h⟩) with ⟨k1, k2⟩ | ⟨j, e, k1, k2, k3⟩
 ·refine ⟨.int .i64 0, clock, .map (es.push ⟨x.val, .int .i64 0, clock⟩) (clock + 1), ?_, es.push ⟨x.val, .int .i64 0, clock⟩, clock + 1, putB_heap hlt, ?_, ?_, es.toList.length, ?_, ?_⟩
  ·unfold It.val at k1 ⊢
   simp [Instr.mapEntry, run_underlying ht, MapKept.run_getObj_map hb, hck, k1, hz, MapKept.run_setObj_map _ hb, goInt]
  ·intro e he
   simp only [Array.toList_push, List.mem_append, List.mem_singleton] at he
   rcases he with he | rfl
   ·obtain ⟨⟨y, hy, hk⟩, _, hc⟩ := h1 e he
    exact ⟨⟨y, List.mem_append_left _ hy, hk⟩, by omega⟩
   ·exact ⟨⟨x, by simp, rfl⟩, by simp⟩
  ·intro y hy
   simp only [Array.toList_push]
   rcases List.mem_append.1 hy with hy | hy
   ·obtain ⟨e, he, hk⟩ := h2 y hy
    exact ⟨e, List.mem_append_left _ he, hk⟩
   ·rw [List.mem_singleton.1 hy]
    exact ⟨_, List.mem_append_right _ (List.mem_singleton.2 rfl), rfl⟩
  ·simp only [Array.toList_push]
   have hno : ∀ (l : List MapEntry), (∀ e ∈ l, e.born < clock) → l.findIdx? (fun e => ((e.born : Nat) : Int) == ((clock : Nat) : Int)) = none := fun l hl => by
    rw [List.findIdx?_eq_none_iff]
    intro e he
    have := hl e he
    simp
    omega
   rw [List.findIdx?_append, hno _ (fun e he => (h1 e he).2.2)]
   simp [List.findIdx?_cons]
  ·intro j e he
   simp only [Array.toList_push] at he
   rcases Nat.lt_or_ge j es.toList.length with hj | hj
   ·rw [List.getElem?_append_left hj] at he
    obtain ⟨_, ⟨c, c1, c2, c3⟩, _⟩ := h1 e (List.mem_of_getElem? he)
    exact ⟨c, c2, c3, fun _ => c1⟩
   ·rw [List.getElem?_append_right hj] at he
    obtain ⟨hj0, he⟩ := List.getElem?_eq_some_iff.1 he
    have hj1 : j = es.toList.length := by
     have : j - es.toList.length < 1 := hj0
     omega
    subst hj1
    simp only [Nat.sub_self, List.getElem_cons_zero] at he
    subst he
    exact ⟨0, Nat.zero_le _, rfl, fun h => absurd rfl h⟩
 ·have he := List.mem_of_getElem? k2
  obtain ⟨⟨y, hy, hk⟩, ⟨c, c1, c2, c3⟩, _⟩ := h1 e he
  have hxy : x = y := val_inj (k3.symm.trans hk)
  subst hxy
  have hej : es[j]? = some e := by simpa using k2
  have hmod : es.modify j (fun e => { e with key := x.val }) = es := by
   apply Array.ext'
   rw [Array.toList_modify]
   apply List.ext_getElem?
   intro i
   rw [List.getElem?_modify]
   by_cases hij : j = i
   ·subst hij
    rw [k2]
    simp only [Option.map_eq_map, Option.map_some, if_pos]
    rw [← k3]
   ·simp [hij]
  obtain ⟨i, hi⟩ : ∃ i, es.toList.findIdx? (fun e' => ((e'.born : Nat) : Int) == ((e.born : Nat) : Int)) = some i := by
   cases hf : es.toList.findIdx? (fun e' => ((e'.born : Nat) : Int) == ((e.born : Nat) : Int)) with
   | some i => exact ⟨i, rfl⟩
   | none =>
    rw [List.findIdx?_eq_none_iff] at hf
    have := hf e he
    simp at this
  refine ⟨.int .i64 (c : Int), e.born, .map es clock, ?_, es, clock, putB_heap hlt, ?_, ?_, i, hi, ?_⟩
  ·unfold It.val at k1 k3 hmod hst ⊢
   simp [Instr.mapEntry, run_underlying ht, MapKept.run_getObj_map hb, hck, k1, hej, k3, hst, hmod, c3, MapKept.run_setObj_map _ hb, goInt]
  ·intro e' he'
   obtain ⟨⟨y, hy, hk⟩, _, hc⟩ := h1 e' he'
   exact ⟨⟨y, List.mem_append_left _ hy, hk⟩, hc⟩
  ·intro y' hy'
   rcases List.mem_append.1 hy' with hy' | hy'
   ·exact h2 y' hy'
   ·rw [List.mem_singleton.1 hy']
    exact ⟨e, he, k3⟩
  ·intro j' e' he'
   obtain ⟨_, ⟨c', c1', c2', c3'⟩, _⟩ := h1 e' (List.mem_of_getElem? he')
   exact ⟨c', c2', c3', fun _ => c1'⟩
theorem MpMid.store {w : World} {b : Nat} {M : List It} {x : It} {st B : Nat} (h : MpMid w b M x st B) (c : Nat) (hc1 : 1 ≤ c) (hc2 : c ≤ B + 1) : ∃ o : Obj, (Instr.entryStore 248 (.map (some b)) (.int .i64 (st : Int)) (.int .i64 (c : Int))).run Tryz.prog w = .ok () (putB w b o) ∧ MpAt (putB w b o) b (M ++ [x]) (B + 1) := by
 obtain ⟨es, clock, hb, h1, h2, i, h3, h4⟩ := h
 have hlt := (Array.getElem?_eq_some_iff.1 hb).1
 have hfi : es.findIdx? (fun e => ((e.born : Nat) : Int) == ((st : Nat) : Int)) = some i := by
  have e1 : es.findIdx? (fun e => ((e.born : Nat) : Int) == ((st : Nat) : Int)) = es.toList.findIdx? (fun e => ((e.born : Nat) : Int) == ((st : Nat) : Int)) := by cases es; simp
  rw [e1]
  exact h3
 refine ⟨.map (es.modify i fun e => { e with val := .int .i64 (c : Int) }) clock, ?_, es.modify i fun e => { e with val := .int .i64 (c : Int) }, clock, putB_heap hlt, ?_, ?_⟩
 ·simp [Instr.entryStore, MapKept.run_getObj_map hb, asInt, asIntOf, hfi, MapKept.run_setObj_map _ hb]
 ·intro e he
  rw [Array.toList_modify] at he
  obtain ⟨j, hj⟩ := List.getElem?_of_mem he
  rw [List.getElem?_modify] at hj
  cases hjj : es.toList[j]? with
  | none => rw [hjj] at hj; simp at hj
  | some e0 =>
   rw [hjj] at hj
   obtain ⟨hk, hbn⟩ := h1 e0 (List.mem_of_getElem? hjj)
   obtain ⟨c', d1, d2, d3⟩ := h4 j e0 hjj
   by_cases hij : i = j
   ·have h5 : ({ e0 with val := .int .i64 (c : Int) } : MapEntry) = e := by simpa [hij] using hj
    subst h5
    exact ⟨hk, ⟨c, hc1, hc2, rfl⟩, hbn⟩
   ·have h5 : e0 = e := by simpa [hij] using hj
    subst h5
    exact ⟨hk, ⟨c', d3 (fun e => hij e.symm), by omega, d2⟩, hbn⟩
 ·intro y hy
  obtain ⟨e, he, hk⟩ := h2 y hy
  obtain ⟨j, hj⟩ := List.getElem?_of_mem he
  rw [Array.toList_modify]
  by_cases hij : i = j
  ·refine ⟨{ e with val := .int .i64 (c : Int) }, ?_, hk⟩
   apply List.mem_of_getElem? (i := j)
   rw [List.getElem?_modify, hj]
   simp [hij]
  ·refine ⟨e, ?_, hk⟩
   apply List.mem_of_getElem? (i := j)
   rw [List.getElem?_modify, hj]
   simp [hij]
end
section
open Go Go.RowKit Go.Lib
def HsAt (w : World) (g b : Nat) (M : List It) : Prop := (∃ B, B ≤ 1000000 ∧ MpAt w b M B) ∧ BoxO w 248 g [.map (some b)]
theorem MpAt.below {w w' : World} {b B : Nat} {M : List It} (h : MpAt w b M B) (hb : Below w.heap.size w w') : MpAt w' b M B := by
 obtain ⟨es, clock, h1, h2⟩ := h
 exact ⟨es, clock, (hb.block b (Array.getElem?_eq_some_iff.1 h1).1).trans h1, h2⟩
theorem MpAt.grown {w w' : World} {b B : Nat} {M : List It} {r : Option Nat} (h : MpAt w b M B) (hg : w.grownBy w' r) (hne : some b ≠ r) : MpAt w' b M B := by
 obtain ⟨es, clock, h1, h2⟩ := h
 exact ⟨es, clock, (hg.block b (Array.getElem?_eq_some_iff.1 h1).1 hne).trans h1, h2⟩
theorem HsAt.below {w w' : World} {g b : Nat} {M : List It} (h : HsAt w g b M) (hb : Below w.heap.size w w') : HsAt w' g b M := ⟨let ⟨B, h1, h2⟩ := h.1; ⟨B, h1, h2.below hb⟩, h.2.below hb⟩
theorem has1_any (x : It) (g b : Nat) (M : List It) (w : World) (h : HsAt w g b M) : Calls Tryz.prog 169 #[x.val, .pointer (some ⟨g, 0, none⟩)] w fun e w' => e = .returned (.bool (decide (x ∈ M))) ∧ Below w.heap.size w w' := by
 obtain ⟨⟨B, hB, hm⟩, hb⟩ := h
 have hm2 := hm.below ((Below.refl w.heap.size w).alloc (Nat.le_refl _) (.cells #[.int .i64 x.s, .int .i64 x.k, .int .u64 (x.t : Int), .int .u64 (x.v : Int), .int .i64 x.x] 27))
 obtain ⟨c, c1, c2, c3⟩ := hm2.look x
 have c0 := (hb.alloc (.cells #[.int .i64 x.s, .int .i64 x.k, .int .u64 (x.t : Int), .int .u64 (x.v : Int), .int .i64 x.x] 27)).cell 0
 simp only [gE0] at c0
 have hbz := (Below.refl w.heap.size w).alloc (Nat.le_refl _) (.cells #[.int .i64 x.s, .int .i64 x.k, .int .u64 (x.t : Int), .int .u64 (x.v : Int), .int .i64 x.x] 27)
 rw [← c2]
 have hdc : decide ((0 : Int) < (c : Int)) = decide (0 < c) := by simp
 unfold It.val at *
 clear hm hm2 hb c2
 go_enter Tryz.func169, Tryz.ntmps169
 go_wp2
 go_ret
 exact ⟨by simp, hbz⟩
theorem grown_drew (w : World) (r : Option Nat) : w.grownBy w.drew r := ⟨rfl, rfl, rfl, Nat.le_refl _, fun _ _ _ => rfl⟩
theorem grown_same {w w1 w2 : World} {b : Nat} (h : w.grownBy w1 (some b)) (k : w1.grownBy w2 (some b)) : w.grownBy w2 (some b) := ⟨k.os.trans h.os, k.tape.trans h.tape, k.output.trans h.output, Nat.le_trans h.size k.size, fun g hg hne => (k.block g (Nat.lt_of_lt_of_le hg h.size) hne).trans (h.block g hg hne)⟩
theorem has_round {w wr W1 W2 : World} {k : Nat} {l : List It} {x : It} (hw : W1 = wr.alloc (.cells #[.int .i64 x.s, .int .i64 x.k, .int .u64 (x.t : Int), .int .u64 (x.v : Int), .int .i64 x.x] 27)) (hm : MpAt W2 w.heap.size (l.take k ++ [x]) (k + 1)) (hg : W1.grownBy W2 (some w.heap.size)) (hb : BoxO wr 248 (w.heap.size + 1) [.map (some w.heap.size)] ∧ Below w.heap.size w wr) (ht : l.take (k + 1) = l.take k ++ [x]) :
  MpAt W2 w.heap.size (l.take (k + 1)) (k + 1) ∧ BoxO W2 248 (w.heap.size + 1) [.map (some w.heap.size)] ∧ Below w.heap.size w W2 := by
 subst hw
 refine ⟨by rw [ht]; exact hm, (hb.1.alloc _).igrown hg (by simp), ?_⟩
 exact (hb.2.alloc hb.2.size _).grown hg (by rw [World.size_alloc]; have := hb.2.size; omega) (fun g e => by cases e; exact Nat.le_refl _)
theorem has_any (A : Option Addr) (n c : Nat) (l : List It) (w : World) (hn : n ≤ 1000000) (hr : Row w.heap.size w A n 5 (itc l)) :
  Calls Tryz.prog 95 #[.slice A n c] w fun e w' => ∃ g b, e = .returned (.func (.func 169) #[] #[.pointer (some ⟨g, 0, none⟩)]) ∧ HsAt w' g b l ∧ Below w.heap.size w w' := by
 have hnn := hr.itlen
 have hmk := @run_makeMap Tryz.prog
 have h0 : MpAt ((w.alloc (.map #[] 0)).alloc (.cells #[.map (some w.heap.size)] 248)) w.heap.size [] 0 := by
  refine ⟨#[], 0, ?_, fun e he => by simp at he, fun y hy => by simp at hy⟩
  rw [Below.heap_alloc _ _ _ (by simp), World.alloc_heap_new]
 have hb0 : BoxO ((w.alloc (.map #[] 0)).alloc (.cells #[.map (some w.heap.size)] 248)) 248 (w.heap.size + 1) [.map (some w.heap.size)] := by
  have h1 := BoxO.new (w.alloc (.map #[] 0)) #[.map (some w.heap.size)] 248
  rw [World.size_alloc] at h1
  exact h1
 have hl0 : Below w.heap.size w ((w.alloc (.map #[] 0)).alloc (.cells #[.map (some w.heap.size)] 248)) :=
  ((Below.refl _ w).alloc (Nat.le_refl _) _).alloc (by simp) _
 have HH := Lib.hid (And.intro h0 (And.intro hb0 hl0))
 have HNN := Lib.hid hnn
 clear h0 hb0 hl0 hnn
 go_enter Tryz.func95, Tryz.ntmps95
 go_wp2
 go_loopw [9] (fun i wr => ∃ k : Nat, k ≤ n ∧ i = .int .i64 (k : Int) ∧ Hid (MpAt wr w.heap.size (l.take k) k ∧ BoxO wr 248 (w.heap.size + 1) [.map (some w.heap.size)] ∧ Below w.heap.size w wr)) (fun i _ => n - (intOf i).toNat)
 case atStart => exact ⟨0, Nat.zero_le _, rfl, HH⟩
 case round =>
  obtain ⟨k, hkn, rfl, HB⟩ := hrel
  by_cases hlt : k < n
  ·obtain ⟨p, hl, rfl, hbk, e0, e1, e2, e3, e4⟩ := (hr.below HB.out.2.2).it hlt
   have hki : (k : Int) < (n : Int) := by omega
   have hwk : IntKind.i64.wrap (k : Int) = (k : Int) := IntWalk.i64_in _ (by omega)
   have htk : l.take (k + 1) = l.take k ++ [l[k]] := List.take_succ_eq_append_getElem hl
   generalize l[k] = x at *
   have hbx : BoxO (wr.alloc (.cells #[.int .i64 x.s, .int .i64 x.k, .int .u64 (x.t : Int), .int .u64 (x.v : Int), .int .i64 x.x] 27)) 27 wr.heap.size x.cells := BoxO.new wr #[.int .i64 x.s, .int .i64 x.k, .int .u64 (x.t : Int), .int .u64 (x.v : Int), .int .i64 x.x] 27
   obtain ⟨W1, hW1⟩ : ∃ W1, W1 = wr.alloc (.cells #[.int .i64 x.s, .int .i64 x.k, .int .u64 (x.t : Int), .int .u64 (x.v : Int), .int .i64 x.x] 27) := ⟨_, rfl⟩
   have hma0 : MpAt W1 w.heap.size (l.take k) k := by rw [hW1]; exact HB.out.1.below ((Below.refl _ wr).alloc (Nat.le_refl _) _)
   have hma : MpAt W1.drew w.heap.size (l.take k) k := hma0
   have hbm : BoxO W1 248 (w.heap.size + 1) [.map (some w.heap.size)] := by rw [hW1]; exact HB.out.2.1.alloc _
   rw [← hW1] at hbx
   have hlt2 : w.heap.size + 1 < wr.heap.size := HB.out.2.1.lt
   obtain ⟨g, hg⟩ : ∃ g, g = wr.heap.size := ⟨_, rfl⟩
   have hcl : ∀ w', W1.grownBy w' (some w.heap.size) → w'.cell? ⟨w.heap.size + 1, 0, none⟩ = some (.map (some w.heap.size)) ∧ w'.cell? ⟨g, 0, none⟩ = some (.int .i64 x.s) ∧ w'.cell? ⟨g, 1, none⟩ = some (.int .i64 x.k) ∧ w'.cell? ⟨g, 2, none⟩ = some (.int .u64 (x.t : Int)) ∧ w'.cell? ⟨g, 3, none⟩ = some (.int .u64 (x.v : Int)) ∧ w'.cell? ⟨g, 4, none⟩ = some (.int .i64 x.x) := by
    intro w' hw'
    have h1 := (hbm.igrown hw' (by simp)).cell 0
    have h2 := hbx.igrown hw' (by simp; omega)
    rw [← hg] at h2
    exact ⟨h1, h2.cell 0, h2.cell 1, h2.cell 2, h2.cell 3, h2.cell 4⟩
   have HC := Lib.hid hcl
   have HMA := Lib.hid hma
   have HW := Lib.hid hW1
   have HB0 := Lib.hid HB.out.2
   have HT := Lib.hid htk
   have HG := Lib.hid hg
   clear hcl hma hma0 hW1 htk hbx hbm hg HB
   go_wp2_with fail
   rw [← HW.out, ← HG.out]
   refine wp_region_held_drew (S := fun w' => W1.grownBy w' (some w.heap.size)) rfl (grown_drew _ _) (fun hSw => ?_)
   refine wpT (i := 0) (v := ?_) ?_ hSw ?_
   rotate_left
   ·(intro w' hSw; obtain ⟨m0, d0, d1, d2, d3, d4⟩ := HC.out w' hSw; go_simp; try (with_reducible rfl))
   go_simp
   refine wpT (i := 1) (v := ?_) ?_ hSw ?_
   rotate_left
   ·(intro w' hSw; obtain ⟨m0, d0, d1, d2, d3, d4⟩ := HC.out w' hSw; go_simp; try (with_reducible rfl))
   go_simp
   refine wpAnyH_ready (rs := [2, 4]) (by kernel_rfl) (by simp) ?_
   refine AllReadyH.cons rfl (fun K hK => ?_) (AllReadyH.cons rfl (fun K hK => ?_) AllReadyH.nil)
   ·obtain ⟨c, c1, _, c3⟩ := HMA.out.look x
    unfold It.val at c3
    go_simp
    refine hK.out _ _ hSw (fun hSn => ?_)
    clear hK K hSw
    have hSw := hSn
    clear hSn
    clear c3
    have hwc : IntKind.i64.wrap ((c : Int) + 1) = ((c + 1 : Nat) : Int) := by rw [IntWalk.i64_in _ (by omega)]; omega
    go_simp
    refine wpT (i := 3) (v := ?_) ?_ hSw ?_
    rotate_left
    ·(intro w' hSw; obtain ⟨m0, d0, d1, d2, d3, d4⟩ := HC.out w' hSw; go_simp; try (with_reducible rfl))
    go_simp
    refine wpAnyH_ready (rs := [4]) (by kernel_rfl) (by simp) ?_
    refine AllReadyH.cons rfl (fun K hK => ?_) AllReadyH.nil
    obtain ⟨v0, st, o1, hme, hmid⟩ := HMA.out.entry x
    have HMI := Lib.hid hmid
    unfold It.val at hme
    clear hmid
    go_simp
    refine hK.out _ _ (grown_same hSw (putB_grown _ _ _)) (fun hSn => ?_)
    clear hK K hSw
    have hSw := hSn
    clear hSn
    clear hme
    go_simp
    refine wpT (i := 5) (v := ?_) ?_ hSw ?_
    rotate_left
    ·(intro w' hSw; obtain ⟨m0, d0, d1, d2, d3, d4⟩ := HC.out w' hSw; go_simp; try (with_reducible rfl))
    go_simp
    refine wpAnyH_ready (rs := [6]) (by kernel_rfl) (by simp) ?_
    refine AllReadyH.cons rfl (fun K hK => ?_) AllReadyH.nil
    obtain ⟨o2, hes, hmz⟩ := HMI.out.store (c + 1) (by omega) (by omega)
    have HMZ := Lib.hid hmz
    clear hmz
    rw [show ((c + 1 : Nat) : Int) = (c : Int) + 1 from by omega] at hes
    go_simp
    refine hK.out _ _ (grown_same hSw (putB_grown _ _ _)) (fun hSn => ?_)
    clear hK K hSw
    have hSw := hSn
    clear hSn
    clear hes
    go_simp
    refine wpAnyH_done (by kernel_rfl) ?_ _
    have HF := Lib.hid (has_round HW.out HMZ.out hSw HB0.out HT.out)
    clear hSw
    go_wp2
    go_roundw
    case rel => exact ⟨k + 1, by omega, by go_num, HF.out⟩
    case measure => simp [intOf]; omega
   ·obtain ⟨v0, st, o1, hme, hmid⟩ := HMA.out.entry x
    have HMI := Lib.hid hmid
    unfold It.val at hme
    clear hmid
    go_simp
    refine hK.out _ _ (grown_same hSw (putB_grown _ _ _)) (fun hSn => ?_)
    clear hK K hSw
    have hSw := hSn
    clear hSn
    clear hme
    go_simp
    refine wpT (i := 5) (v := ?_) ?_ hSw ?_
    rotate_left
    ·(intro w' hSw; obtain ⟨m0, d0, d1, d2, d3, d4⟩ := HC.out w' hSw; go_simp; try (with_reducible rfl))
    go_simp
    refine wpAnyH_ready (rs := [2]) (by kernel_rfl) (by simp) ?_
    refine AllReadyH.cons rfl (fun K hK => ?_) AllReadyH.nil
    obtain ⟨c, c1, c3⟩ := HMI.out.look x
    unfold It.val at c3
    go_simp
    refine hK.out _ _ hSw (fun hSn => ?_)
    clear hK K hSw
    have hSw := hSn
    clear hSn
    clear c3
    have hwc : IntKind.i64.wrap ((c : Int) + 1) = ((c + 1 : Nat) : Int) := by rw [IntWalk.i64_in _ (by omega)]; omega
    go_simp
    refine wpT (i := 3) (v := ?_) ?_ hSw ?_
    rotate_left
    ·(intro w' hSw; obtain ⟨m0, d0, d1, d2, d3, d4⟩ := HC.out w' hSw; go_simp; try (with_reducible rfl))
    go_simp
    refine wpAnyH_ready (rs := [6]) (by kernel_rfl) (by simp) ?_
    refine AllReadyH.cons rfl (fun K hK => ?_) AllReadyH.nil
    obtain ⟨o2, hes, hmz⟩ := HMI.out.store (c + 1) (by omega) (by omega)
    have HMZ := Lib.hid hmz
    clear hmz
    rw [show ((c + 1 : Nat) : Int) = (c : Int) + 1 from by omega] at hes
    go_simp
    refine hK.out _ _ (grown_same hSw (putB_grown _ _ _)) (fun hSn => ?_)
    clear hK K hSw
    have hSw := hSn
    clear hSn
    clear hes
    go_simp
    refine wpAnyH_done (by kernel_rfl) ?_ _
    have HF := Lib.hid (has_round HW.out HMZ.out hSw HB0.out HT.out)
    clear hSw
    go_wp2
    go_roundw
    case rel => exact ⟨k + 1, by omega, by go_num, HF.out⟩
    case measure => simp [intOf]; omega
  ·have hki : ((k : Int) < (n : Int)) = False := eq_false (by omega)
   have hall : l.take k = l := List.take_of_length_le (by have := HNN.out; omega)
   have hb := HB.out
   rw [hall] at hb
   have HF := Lib.hid hb
   clear hb HB hall
   go_wp2
   go_ret
   exact ⟨w.heap.size + 1, w.heap.size, rfl, ⟨⟨k, by omega, HF.out.1⟩, HF.out.2.1⟩, HF.out.2.2⟩
end
end Go.Proofs.YtdkjoigpahafmaaGreatDoor
