/- Texts StoE, StoG, StoF, KeepA in one. No conditions. -/
import Derived.Test.YtpdaolongmgmgaaGreatDoorBunAT
import Derived.Test.YtpdaolongmgmgaaGreatDoorBunAP
import Derived.Test.YtpdaolongmgmgaaGreatDoorBunAJ

namespace Go.Proofs.YtpdaolongmgmgaaGreatDoor
open Go Go.RowKit Go.Lib Go.Shelf
variable {w w1 w2 : World} {X X1 X2 : Dw} {S S1 S2 : Sd} {Y Y1 Y2 : Yw} {V V1 V2 : Sv}
def hval (lev n : Int) (f : Nat) : Value := .agg #[.int .i64 lev, .int .i64 n, .pointer (some ⟨f, 0, none⟩)]
def SwPost (X : Dw) (Y : Yw) (w : World) (V : Sv) (l : List It) (lev n : Int) (R : Sd × Nat) (e : Ending) (w' : World) : Prop := ∃ (a b : Int) (p : Option Addr) (X' : Dw), e = .returned (.tuple #[.agg #[.int .i64 a, .int .i64 b, .pointer p], .int .i64 (R.2 : Int)]) ∧ X'.d = X.d ∧ SvAt w' X' R.1 Y V ∧ Chg (XY X Y) w w' ∧ (∀ g ∈ XY X' Y, g ∈ XY X Y ∨ w.heap.size ≤ g) ∧ (R.2 = 0 → ∃ f, a = lev ∧ b = n ∧ p = some ⟨f, 0, none⟩ ∧ ∀ G, (∀ g ∈ G, g ∈ XY X' Y ∨ g < w.heap.size) → Fixed G w' fun W => TbAt W f (Tb.rows l))
structure Way (w0 : World) (X0 : Dw) (Y : Yw) (V : Sv) (w : World) (X : Dw) (S : Sd) : Prop where
 at_ : SvAt w X S Y V
 d : X.d = X0.d
 c : Chg (XY X0 Y) w0 w
 f : ∀ g ∈ XY X Y, g ∈ XY X0 Y ∨ w0.heap.size ≤ g
theorem Way.start (h : SvAt w X S Y V) : Way w X Y V w X S := ⟨h, rfl, Chg.refl _ _, fun _ hg => .inl hg⟩
theorem Way.below {w0 : World} {X0 : Dw} (k : Way w0 X0 Y V w X S) (hb : Below w.heap.size w w1) : Way w0 X0 Y V w1 X S := ⟨k.at_.below hb, k.d, k.c.trans (Chg.of_below hb []) (fun g hg => by cases hg), k.f⟩
theorem Way.disk {w0 : World} {X0 : Dw} (k : Way w0 X0 Y V w X S) (hu : UpdM X w w1 S1) : ∃ X1, X1.d = X.d ∧ Way w0 X0 Y V w1 X1 S1 ∧ Chg (XY X Y) w w1 ∧ ∀ g ∈ XY X1 Y, g ∈ XY X Y ∨ w.heap.size ≤ g := by
 obtain ⟨X1, e, h1, c1, f1⟩ := k.at_.disk hu
 refine ⟨X1, e, ⟨h1, e.trans k.d, k.c.trans c1 k.f, fun g hg => ?_⟩, c1, f1⟩
 rcases f1 g hg with q | q
 ·exact k.f g q
 ·exact .inr (Nat.le_trans k.c.size q)
theorem Way.scr {w0 : World} {X0 : Dw} {S0 : Sd} (h0 : SvAt w0 X0 S0 Y V) (k : Way w0 X0 Y V w X S) {G : List Nat} (hG : ∀ g ∈ G, w0.heap.size ≤ g ∧ g ∉ XY X Y) (c2 : Chg G w w1) : Way w0 X0 Y V w1 X S :=
 ⟨h0.scr k.at_ k.c k.f hG c2, k.d, k.c.trans c2 fun g hg => .inr (hG g hg).1, k.f⟩
theorem Way.upd {w0 : World} {X0 : Dw} (k : Way w0 X0 Y V w X S) : SvUpd X0 Y w0 w S V := ⟨X, Y, k.d, rfl, k.at_, k.c, k.f⟩
theorem cg3 (g : Nat) (w : World) (a b c : Value) : Chg [g] w (((w.setCell ⟨g, 0, none⟩ a).setCell ⟨g, 1, none⟩ b).setCell ⟨g, 2, none⟩ c) :=
 (((Chg.refl [g] w).setCell _ (.inl (by simp))).setCell _ (.inl (by simp))).setCell _ (.inl (by simp))
theorem Tb.make_len {l : List It} (h : l.length ≤ 2000) : (Tb.make l).length ≤ 100000 := by
 have h1 : (Tb.rows l).length ≤ 100 := by
  have := Tb.cut_len 20 (by omega) l.length l
  unfold Tb.rows
  omega
 have h2 := Tb.blocks_len (Tb.rows l) (fun r hr => (Tb.cut_mem 20 (by omega) _ _ r hr).2.1)
 have h3 := Tb.index_len 0 (Tb.rows l)
 have h4 := Tb.filt_len l h
 unfold Tb.make
 simp only [List.length_append, Fr.put_length]
 have p1 := Pn.put_len (Tb.blocks (Tb.rows l)).length
 have p2 := Pn.put_len ((Tb.blocks (Tb.rows l)).length + ((Tb.index 0 (Tb.rows l)).length + 12))
 have p3 := Pn.put_len l.length
 omega
theorem number_le (S : Sd) : 1 ≤ St.number S ∧ St.number S ≤ 1073741825 := by
 have hr1 : 0 ≤ Mn.greatest S.list Mn.kLog ∧ Mn.greatest S.list Mn.kLog ≤ 1073741824 := greatest_rng Mn.kLog (.inl rfl) S.list 0 (by omega) (by omega)
 have hr2 : 0 ≤ Mn.greatest S.list Mn.kTab ∧ Mn.greatest S.list Mn.kTab ≤ 1073741824 := greatest_rng Mn.kTab (.inr rfl) S.list 0 (by omega) (by omega)
 unfold St.number
 omega
theorem sname_len (k : List UInt8) (n : Int) : (Mn.name k n).length ≤ 1000 := by
 by_cases hne : Mn.name k n = []
 ·rw [hne]; simp
 ·have := Mn.name_len hne
  omega
set_option maxRecDepth 100000 in
set_option maxHeartbeats 8000000 in
theorem swrite_any (h : SvAt w X S Y V) (L : Option Addr) (m d : Nat) (l : List It) (hm : m ≤ 2000) (hmd : m ≤ d) (hq : Row w.heap.size w L m 5 (itc l)) (hf : ∀ x ∈ l, x.fit) (hgd : Tb.good l = true) (lev : Int) (hld : S.load ≤ 1000000000000) :
  Calls Tryz.prog 136 #[.pointer (some ⟨Y.s, 0, none⟩), .slice L m d, .int .i64 lev] w (SwPost X Y w V l lev (St.number S) (St.write S l)) := by
 have hml := hq.itlen
 have hbA := (Below.refl w.heap.size w).alloc (Nat.le_refl _) (.cells #[.int .i64 0, .int .i64 0, .pointer none] 154)
 have hbx := BoxO.new w #[.int .i64 0, .int .i64 0, .pointer none] 154
 obtain ⟨W, hW⟩ : ∃ W, W = w.alloc (.cells #[.int .i64 0, .int .i64 0, .pointer none] 154) := ⟨_, rfl⟩
 obtain ⟨gr, hgr⟩ : ∃ gr, gr = w.heap.size := ⟨_, rfl⟩
 rw [← hgr] at hbx
 rw [← hW] at hbA hbx
 have hxlt : ∀ g ∈ XY X Y, g < w.heap.size := h.lt
 have k1 : Way w X Y V W X S := (Way.start h).below hbA
 have hmk := tbmake_any L m d l W (by omega) hmd ((hq.below hbA).up hbA.size) hf
 obtain ⟨n, hn⟩ : ∃ n, n = St.number S := ⟨_, rfl⟩
 have hnr := number_le S
 have hnn : (Mn.name Mn.kTab n).length ≤ 1000 := sname_len _ _
 obtain ⟨R, hR⟩ : ∃ R, R = St.write S l := ⟨_, rfl⟩
 unfold St.write at hR
 have hR0 : St.write S l = R := by rw [hR]; rfl
 rw [hR0]
 rw [← hn] at hR hnr ⊢
 have hln : l.length ≤ 2000 := by omega
 have hMl := Tb.make_len hln
 have hop := Tb.open_make hgd hf
 have hgl := hbx.lt
 have hend : ∀ (w' : World) (X' : Dw) (S' : Sd) (er : Nat), Way w X Y V w' X' S' → gr ∉ XY X' Y → er ≠ 0 → R = (S', er) → SwPost X Y w V l lev n R (.returned (.tuple #[.agg #[.int .i64 0, .int .i64 0, .pointer none], .int .i64 (er : Int)])) (((w'.setCell ⟨gr, 0, none⟩ (.int .i64 0)).setCell ⟨gr, 1, none⟩ (.int .i64 0)).setCell ⟨gr, 2, none⟩ (.pointer none)) := by
  intro w' X' S' er k hx hne he
  have hke := Way.scr h k (G := [gr]) (fun g hg => by rw [List.mem_singleton.1 hg]; exact ⟨by omega, hx⟩) (cg3 gr w' (.int .i64 0) (.int .i64 0) (.pointer none))
  rw [he]
  exact ⟨_, _, _, _, rfl, hke.d, hke.at_, hke.c, hke.f, fun h0 => absurd h0 hne⟩
 have hendT : ∀ (w' : World) (X' : Dw) (S' : Sd) (er f : Nat), Way w X Y V w' X' S' → gr ∉ XY X' Y → (∀ G W, (∀ g ∈ G, g ∈ XY X' Y ∨ g < w.heap.size) → Chg G (((w'.setCell ⟨gr, 0, none⟩ (.int .i64 lev)).setCell ⟨gr, 1, none⟩ (.int .i64 n)).setCell ⟨gr, 2, none⟩ (.pointer (some ⟨f, 0, none⟩))) W → TbAt W f (Tb.rows l)) → R = (S', er) → SwPost X Y w V l lev n R (.returned (.tuple #[hval lev n f, .int .i64 (er : Int)])) (((w'.setCell ⟨gr, 0, none⟩ (.int .i64 lev)).setCell ⟨gr, 1, none⟩ (.int .i64 n)).setCell ⟨gr, 2, none⟩ (.pointer (some ⟨f, 0, none⟩))) := by
  intro w' X' S' er f k hx ht he
  have hke := Way.scr h k (G := [gr]) (fun g hg => by rw [List.mem_singleton.1 hg]; exact ⟨by omega, hx⟩) (cg3 gr w' (.int .i64 lev) (.int .i64 n) (.pointer (some ⟨f, 0, none⟩)))
  rw [he]
  exact ⟨_, _, _, _, rfl, hke.d, hke.at_, hke.c, hke.f, fun _ => ⟨f, rfl, rfl, rfl, fun G hG W c => ht G W hG c⟩⟩
 have HEND := Lib.hid hend
 have HENDT := Lib.hid hendT
 clear hend hendT
 have HV := Lib.hid hW
 have HG := Lib.hid hgr
 have HMK := Lib.hid hmk
 have HR := Lib.hid hR
 have HOP := Lib.hid hop
 have HN := Lib.hid hn
 have HX := Lib.hid hxlt
 have HML := Lib.hid (And.intro hml hMl)
 clear hmk hR hR0 hop hn hxlt hMl hln hml hq hbA hgr hW
 go_enter Tryz.func136, Tryz.ntmps136
 go_wp2_with fail
 rw [← HV.out, ← HG.out]
 with_reducible refine HMK.out.mono ?_
 rintro e w2 (⟨_, A', M, c', rfl, ho, hMc, hcm, hb2⟩ | ⟨hbad, _⟩)
 rotate_left
 ·rw [hgd] at hbad
  cases hbad
 have k2 := k1.below hb2
 have FX2 : Fixed (XY X Y) w2 fun W' => BoxO W' 154 gr #[.int .i64 0, .int .i64 0, .pointer none].toList ∧ Row W'.heap.size W' A' M 1 (bts (Tb.make l)) := by
  obtain ⟨P, c0, q1, q2, q3, q4⟩ := own_form ho
  injection q1 with q1 _ _
  subst q1
  have hbw := hbx.below hb2
  have hrw := Row.own ho
  refine Fixed.and (fun W' c => hbw.chg c (fun hm => ?_)) (fun W' c => (row_chg c hrw (Nat.le_refl _) (fun j _ a ha hm => ?_)).up c.size)
  ·have := HX.out _ hm
   have := HG.out
   omega
  ·have := HX.out _ hm
   have := (q4 a ha).1
   have := HG.out
   have := hbx.lt
   omega
 have HLO : Hid (∀ a, A' = some a → W.heap.size ≤ a.block ∧ a.block < w2.heap.size) := Lib.hid (by
  obtain ⟨P, c0, q1, q2, q3, q4⟩ := own_form ho
  injection q1 with q1 _ _
  subst q1
  exact fun a ha => ⟨(q4 a ha).1, (q4 a ha).2.1⟩)
 have HM5 : Hid (M = (Tb.make l).length) := Lib.hid (by
  have := ho.1
  rw [bts_length] at this
  omega)
 have HNU := Lib.hid (snumber_any k2.at_)
 have HK1 := Lib.hid k1
 clear k1 hbx HMK ho
 go_wp2_with fail
 with_reducible refine HNU.out.mono ?_
 rintro e w3 ⟨rfl, hb3⟩
 rw [← HN.out]
 have k3 := k2.below hb3
 have FX3 := FX2.below hb3
 have hgx : ∀ X', (∀ g ∈ XY X' Y, g ∈ XY X Y ∨ w2.heap.size ≤ g) → gr ∉ XY X' Y := fun X' hf hm => by
  have q1 := HG.out
  have q2 := FX2.now.1.lt
  rcases hf _ hm with q | q
  ·have := HX.out _ q
   omega
  ·omega
 have HGX := Lib.hid hgx
 clear hgx
 have hR := HR.out
 by_cases hbig : 1073741824 < n
 ·rw [if_pos hbig]
  rw [if_pos hbig] at hR
  have HZ := Lib.hid (HEND.out _ _ _ 65 k3 (HGX.out X (fun g hg => .inl hg)) (by omega) hR)
  have hbq := FX3.now.1
  have s0 := hbq.cell 0
  have s1 := hbq.cell 1
  have s2 := hbq.cell 2
  have z0 := hbq.free 0
  have z1 := hbq.free 1
  have z2 := hbq.free 2
  simp only [List.getElem?_cons_zero, List.getElem?_cons_succ] at s0 s1 s2
  clear hbq
  clear HEND HENDT hR
  go_wp2
  exact bodyPost_ret (v := .tuple #[.agg #[.int .i64 0, .int .i64 0, .pointer none], .int .i64 (65 : Int)]) (by simp [results, go_sem, *]) rfl HZ.out
 ·rw [if_neg hbig]
  rw [if_neg hbig] at hR
  have hnm := name_any (str Mn.kTab) (by rw [str_size]; decide) n (by omega) w3 k3.at_.dm.env
  rw [list_str] at hnm
  rw [show str Mn.kTab = ({ data := #[116, 97, 98] } : ByteArray) from rfl] at hnm
  obtain ⟨nm, hnme⟩ : ∃ nm, nm = Mn.name Mn.kTab n := ⟨_, rfl⟩
  rw [← hnme] at hnm hR hnn
  have HNM := Lib.hid hnm
  have HR0 := Lib.hid hR
  clear hnm hnme hR
  go_wp2_with fail
  with_reducible refine HNM.out.mono ?_
  rintro e w4 ⟨rfl, hb4⟩
  have k4 := k3.below hb4
  have FX4 := FX3.below hb4
  have c0 := k4.at_.box.cell 0
  simp only [Yw.cells, List.getElem?_cons_zero, List.getElem?_cons_succ] at c0
  have hcr := (Acc.start (F := []) k4.at_.dm).create (str nm) (by rw [str_size]; unfold maxLen; omega) (by omega)
  rw [list_str] at hcr
  obtain ⟨a, ha⟩ : ∃ a, a = S.create nm := ⟨_, rfl⟩
  have hR := HR0.out
  rw [← ha] at hcr hR
  obtain ⟨S5, er5⟩ := a
  simp only at hcr hR
  have HCR := Lib.hid hcr
  have HR1 := Lib.hid hR
  have HSZ := Lib.hid (show w2.heap.size ≤ w4.heap.size from Nat.le_trans hb3.size hb4.size)
  clear hcr hR ha HR0 HR hb3 hb4 HNU HNM k3 k2 FX3
  go_wp2_with fail
  with_reducible refine HCR.out.mono ?_
  rintro e w5 ⟨rfl, Xq, hq⟩
  obtain ⟨X5, -, k5, hc5, hf5⟩ := k4.disk hq.updM
  have FX5 := FX4.step hc5 hf5
  have hg5 : gr ∉ XY X5 Y := HGX.out X5 (fun g hg => (hf5 g hg).imp id (fun q => Nat.le_trans HSZ.out q))
  by_cases he5 : er5 = 0
  ·subst he5
   have hR := HR1.out
   rw [if_neg (by simp)] at hR
   have c0 := k5.at_.box.cell 0
   simp only [Yw.cells, List.getElem?_cons_zero, List.getElem?_cons_succ] at c0
   have hap := (Acc.start (F := []) k5.at_.dm).append (str nm) (by rw [str_size]; unfold maxLen; omega) A' M c' (Tb.make l) (by have := HM5.out; have := HML.out.2; omega) FX5.now.2 (fun a ha hm => by
    have q1 := HLO.out a ha
    have q2 := HV.out
    have q3 := hgl
    have q4 := HG.out
    rcases hf5 _ (List.mem_append_left _ hm) with q | q
    ·have := HX.out _ q
     omega
    ·have := HSZ.out
     omega)
   rw [list_str] at hap
   obtain ⟨a, ha⟩ : ∃ a, a = S5.append nm (Tb.make l) := ⟨_, rfl⟩
   rw [← ha] at hap hR
   obtain ⟨S6, er6⟩ := a
   simp only at hap hR
   have HAP := Lib.hid hap
   have HR2 := Lib.hid hR
   have HF5 := Lib.hid (fun g hg => (hf5 g hg).imp id (fun q => Nat.le_trans HSZ.out q) : ∀ g ∈ XY X5 Y, g ∈ XY X Y ∨ w2.heap.size ≤ g)
   have HS5 := Lib.hid (show w2.heap.size ≤ w5.heap.size from Nat.le_trans HSZ.out hc5.size)
   clear hap hR ha HR1 HCR hq hc5 hf5 k4 FX4
   go_wp2_with fail
   with_reducible refine HAP.out.mono ?_
   rintro e w6 ⟨rfl, Xq, hq⟩
   obtain ⟨X6, -, k6, hc6, hf6⟩ := k5.disk hq.updM
   have FX6 := FX5.step hc6 hf6
   have HF6 := Lib.hid (fun g hg => (by
    rcases hf6 g hg with q | q
    ·exact HF5.out g q
    ·exact .inr (Nat.le_trans HS5.out q)) : ∀ g ∈ XY X6 Y, g ∈ XY X Y ∨ w2.heap.size ≤ g)
   have hg6 : gr ∉ XY X6 Y := HGX.out X6 HF6.out
   by_cases he6 : er6 = 0
   ·subst he6
    have hR := HR2.out
    rw [if_neg (by simp)] at hR
    have htr := tbread_any A' M c' (Tb.make l) w6 (by have := HM5.out; have := HML.out.2; omega) hMc hcm FX6.now.2
    have HTR := Lib.hid htr
    have HR3 := Lib.hid hR
    have HS6 := Lib.hid (show w2.heap.size ≤ w6.heap.size from Nat.le_trans HS5.out hc6.size)
    clear htr hR HAP HR2 hq hc6 hf6 k5 FX5 c0
    go_wp2_with fail
    with_reducible refine HTR.out.mono ?_
    rintro e w7 ⟨hb7, (⟨hno, _⟩ | ⟨rs, hrs, f, rfl, hsm⟩)⟩
    ·rw [HOP.out] at hno
     cases hno
    rw [HOP.out] at hrs
    injection hrs with hrs
    subst hrs
    have k7 := k6.below hb7
    have FX7 := FX6.below hb7
    have hlt6 := k6.at_.lt
    have hgr6 : gr < w6.heap.size := FX6.now.1.lt
    have hfx : ∀ W, Chg (List.range w6.heap.size) w7 W → TbAt W f (Tb.rows l) := fun W c => hsm W (Sames.of_chg c fun g hg => List.mem_range.1 hg)
    have HL6 := Lib.hid (And.intro hlt6 (And.intro hgr6 (show w.heap.size ≤ w6.heap.size from k6.c.size)))
    have c0 := k7.at_.box.cell 0
    simp only [Yw.cells, List.getElem?_cons_zero, List.getElem?_cons_succ] at c0
    have hsy := (Acc.start (F := []) k7.at_.dm).sync (str nm) (by rw [str_size]; unfold maxLen; omega)
    rw [list_str] at hsy
    obtain ⟨a, ha⟩ : ∃ a, a = S6.sync nm := ⟨_, rfl⟩
    have hR := HR3.out
    rw [← ha] at hsy hR
    obtain ⟨S8, er8⟩ := a
    simp only at hsy hR
    have HSY := Lib.hid hsy
    have HR4 := Lib.hid hR
    have HFX := Lib.hid hfx
    have HS7 := Lib.hid (show w2.heap.size ≤ w7.heap.size from Nat.le_trans HS6.out hb7.size)
    clear hsy hR ha HR3 HTR hsm hb7 k6 FX6 hlt6 hgr6 hfx
    go_wp2_with fail
    with_reducible refine HSY.out.mono ?_
    rintro e w8 ⟨rfl, Xq, hq⟩
    obtain ⟨X8, -, k8, hc8, hf8⟩ := k7.disk hq.updM
    have FX8 := FX7.step hc8 hf8
    have hg8 : gr ∉ XY X8 Y := HGX.out X8 (fun g hg => by
     rcases hf8 g hg with q | q
     ·exact HF6.out g q
     ·exact .inr (Nat.le_trans HS7.out q))
    have hz := HENDT.out w8 X8 S8 er8 f k8 hg8 (fun G W hG cW => HFX.out W (((hc8.mono fun g hg => .inl (List.mem_range.2 (HL6.out.1 g hg))).trans (cg3 gr w8 (.int .i64 lev) (.int .i64 n) (.pointer (some ⟨f, 0, none⟩))) (fun g hg => .inl (by rw [List.mem_singleton.1 hg]; exact List.mem_range.2 HL6.out.2.1))).trans cW (fun g hg => by
     rcases hG g hg with q | q
     ·exact (hf8 g q).imp (fun q => List.mem_range.2 (HL6.out.1 g q)) id
     ·exact .inl (List.mem_range.2 (Nat.lt_of_lt_of_le q HL6.out.2.2))))) HR4.out
    have HZ := Lib.hid hz
    have hbq := FX8.now.1
    have s0 := hbq.cell 0
    have s1 := hbq.cell 1
    have s2 := hbq.cell 2
    have z0 := hbq.free 0
    have z1 := hbq.free 1
    have z2 := hbq.free 2
    simp only [List.getElem?_cons_zero, List.getElem?_cons_succ] at s0 s1 s2
    clear hbq hz HENDT HEND hg8 hc8 hf8 k8 FX8 HFX hq k7 FX7 c0 HSY HR4
    go_wp2
    exact bodyPost_ret (v := .tuple #[hval lev n f, .int .i64 (er8 : Int)]) (by simp [results, hval, go_sem, *]) rfl HZ.out
   ·have e6i : ((er6 : Int) == 0) = false := by simp; omega
    have hR := HR2.out
    rw [if_pos he6] at hR
    have HZ := Lib.hid (HEND.out _ _ _ er6 k6 hg6 (by assumption) hR)
    have hbq := FX6.now.1
    have s0 := hbq.cell 0
    have s1 := hbq.cell 1
    have s2 := hbq.cell 2
    have z0 := hbq.free 0
    have z1 := hbq.free 1
    have z2 := hbq.free 2
    simp only [List.getElem?_cons_zero, List.getElem?_cons_succ] at s0 s1 s2
    clear hbq
    clear HEND HENDT hR
    go_wp2
    exact bodyPost_ret (v := .tuple #[.agg #[.int .i64 0, .int .i64 0, .pointer none], .int .i64 ((er6 : Nat) : Int)]) (by simp [results, go_sem, *]) rfl HZ.out
  ·have e5i : ((er5 : Int) == 0) = false := by simp; omega
   have hR := HR1.out
   rw [if_pos he5] at hR
   have HZ := Lib.hid (HEND.out _ _ _ er5 k5 hg5 (by assumption) hR)
   have hbq := FX5.now.1
   have s0 := hbq.cell 0
   have s1 := hbq.cell 1
   have s2 := hbq.cell 2
   have z0 := hbq.free 0
   have z1 := hbq.free 1
   have z2 := hbq.free 2
   simp only [List.getElem?_cons_zero, List.getElem?_cons_succ] at s0 s1 s2
   clear hbq
   clear HEND HENDT hR
   go_wp2
   exact bodyPost_ret (v := .tuple #[.agg #[.int .i64 0, .int .i64 0, .pointer none], .int .i64 ((er5 : Nat) : Int)]) (by simp [results, go_sem, *]) rfl HZ.out
end Go.Proofs.YtpdaolongmgmgaaGreatDoor
namespace Go.Proofs.YtpdaolongmgmgaaGreatDoor
open Go Go.RowKit Go.Lib Go.Shelf
variable {w w1 w2 : World} {X X1 X2 : Dw} {S S1 S2 : Sd} {Y Y1 Y2 : Yw} {V V1 V2 : Sv}
theorem SvAt.diskE (h : SvAt w X S Y V) (e : X1.d = X.d) (hd : Dm w1 X1 S1) (c : Chg X.foot w w1) (hf : ∀ g ∈ X1.foot, g ∈ X.foot ∨ w.heap.size ≤ g) : SvAt w1 X1 S1 Y V ∧ Chg (XY X Y) w w1 ∧ (∀ g ∈ XY X1 Y, g ∈ XY X Y ∨ w.heap.size ≤ g) := by
 have hn : ∀ g ∈ Y.foot, g ∉ X.foot := h.apart.x
 have hc2 : Chg (XY X Y) w w1 := c.mono fun g hg => .inl (List.mem_append_left _ hg)
 have hf2 : ∀ g ∈ XY X1 Y, g ∈ XY X Y ∨ w.heap.size ≤ g := fun g hg => by
  rcases List.mem_append.1 hg with h1 | h1
  ·rcases hf g h1 with h2 | h2
   ·exact .inl (List.mem_append_left _ h2)
   ·exact .inr h2
  ·exact .inl (List.mem_append_right _ h1)
 refine ⟨⟨hd, by rw [e]; exact h.box.chg c (hn _ (Yw.mem_foot.2 (.inl rfl))), by rw [e]; exact h.man.chg c (hn _ (Yw.mem_foot.2 (.inr (.inl rfl)))), h.row.step c hf, h.pout, by rw [e]; exact h.log.chg c (hn _ (Yw.mem_foot.2 (.inr (.inr (.inl rfl))))), h.mem.chg c (fun g hg => hn g (Yw.mem_foot.2 ?_)), h.its, h.tabs.step hc2 hf2, h.st.step hc2 hf2, ⟨fun g hg hm => ?_, h.apart.s, h.apart.m, h.apart.g⟩, h.ng⟩, hc2, hf2⟩
 ·rcases List.mem_cons.1 hg with rfl | hg
  ·exact .inr (.inr (.inr (.inl rfl)))
  ·exact .inr (.inr (.inr (.inr hg)))
 ·rcases hf g hm with h1 | h1
  ·exact hn g hg h1
  ·have := h.ylt g hg
   omega
theorem Way.diskE {w0 : World} {X0 : Dw} (k : Way w0 X0 Y V w X S) (e : X1.d = X.d) (hd : Dm w1 X1 S1) (c : Chg X.foot w w1) (hf : ∀ g ∈ X1.foot, g ∈ X.foot ∨ w.heap.size ≤ g) : Way w0 X0 Y V w1 X1 S1 ∧ Chg (XY X Y) w w1 ∧ ∀ g ∈ XY X1 Y, g ∈ XY X Y ∨ w.heap.size ≤ g := by
 obtain ⟨h1, c1, f1⟩ := k.at_.diskE e hd c hf
 refine ⟨⟨h1, e.trans k.d, k.c.trans c1 k.f, fun g hg => ?_⟩, c1, f1⟩
 rcases f1 g hg with q | q
 ·exact k.f g q
 ·exact .inr (Nat.le_trans k.c.size q)
def SfPost (X : Dw) (Y : Yw) (w : World) (V : Sv) (n : Int) (R : Sd × Nat) (e : Ending) (w' : World) : Prop := ∃ (p : Option Addr) (n' : Int) (X' : Dw), e = .returned (.tuple #[.pointer p, .int .i64 n', .int .i64 (R.2 : Int)]) ∧ X'.d = X.d ∧ SvAt w' X' R.1 Y V ∧ Chg (XY X Y) w w' ∧ (∀ g ∈ XY X' Y, g ∈ XY X Y ∨ w.heap.size ≤ g) ∧
 (R.2 = 0 → ∃ g, p = some ⟨g, 0, none⟩ ∧ n' = n ∧ LgAt w' g X.d (Mn.name Mn.kLog n) 0 0 ∧ w.heap.size ≤ g ∧ g ∉ XY X' Y)
set_option maxRecDepth 100000 in
set_option maxHeartbeats 4000000 in
theorem sfresh_any (h : SvAt w X S Y V) (hld : S.load ≤ 1000000000000) :
  Calls Tryz.prog 131 #[.pointer (some ⟨Y.s, 0, none⟩), .slice none 0 0] w (SfPost X Y w V (St.number S) (St.fresh S)) := by
 have hylt := h.ylt
 obtain ⟨n, hn⟩ : ∃ n, n = St.number S := ⟨_, rfl⟩
 have hnr := number_le S
 have hnn : (Mn.name Mn.kLog n).length ≤ 1000 := sname_len _ _
 obtain ⟨R, hR⟩ : ∃ R, R = St.fresh S := ⟨_, rfl⟩
 have hR0 : St.fresh S = R := hR.symm
 rw [hR0]
 unfold St.fresh at hR
 rw [← hn] at hR hnr ⊢
 have hnu := snumber_any h
 rw [← hn] at hnu
 have k1 : Way w X Y V w X S := Way.start h
 clear hR0 hn
 by_cases hbig : 1073741824 < n
 ·rw [if_pos hbig] at hR hnu
  have HNU := Lib.hid hnu
  have HR := Lib.hid hR
  clear hnu hR h
  go_enter Tryz.func131, Tryz.ntmps131
  go_wp2_with fail
  with_reducible refine HNU.out.mono ?_
  rintro e w3 ⟨rfl, hb3⟩
  have k3 := k1.below hb3
  have HK := Lib.hid k3
  clear k1 k3 hb3
  go_wp2
  refine bodyPost_ret (v := .tuple #[.pointer none, .int .i64 0, .int .i64 65]) (by simp [results, go_sem]) rfl ?_
  rw [HR.out]
  exact ⟨_, _, _, rfl, HK.out.d, HK.out.at_, HK.out.c, HK.out.f, fun h0 => by cases h0⟩
 rw [if_neg hbig] at hR hnu
 obtain ⟨nm, hnm⟩ : ∃ nm, nm = Mn.name Mn.kLog n := ⟨_, rfl⟩
 rw [← hnm] at hR hnn
 replace hR : R = if (S.create nm).2 ≠ 0 then S.create nm else (S.create nm).1.sync nm := hR
 have hname : ∀ W, Below w.heap.size w W → Calls Tryz.prog 50 #[.string { data := #[108, 111, 103] }, .int .i64 n] W fun e w' => e = .returned (.string (str nm)) ∧ Below W.heap.size W w' := fun W hb => by
  have := name_any (str Mn.kLog) (by rw [str_size]; decide) n (by omega) W (k1.below hb).at_.dm.env
  rw [list_str, ← hnm] at this
  exact this
 have hnew : ∀ W, Below w.heap.size w W → Calls Tryz.prog 101 #[.pointer (some ⟨X.d, 0, none⟩), .string (str nm)] W (LnPost X W nm (S.create nm)) := fun W hb => lnew_any X S nm W hnn (by omega) (h.dm.below hb)
 obtain ⟨a, ha⟩ : ∃ a, a = S.create nm := ⟨_, rfl⟩
 rw [← ha] at hR hnew
 obtain ⟨S5, er5⟩ := a
 simp only at hR
 have HNU := Lib.hid hnu
 have HNM := Lib.hid hname
 have HX := Lib.hid h.box
 have HNR := Lib.hid hnr
 have HH := Lib.hid h
 have HNM2 := Lib.hid hnm
 clear hnu ha hname hbig hnr hnm
 by_cases he5 : er5 = 0
 ·subst he5
  rw [if_neg (by simp)] at hR
  have hnew2 : ∀ W, Below w.heap.size w W → Calls Tryz.prog 101 #[.pointer (some ⟨X.d, 0, none⟩), .string (str nm)] W fun e w' => ∃ g X', e = .returned (.tuple #[.pointer (some ⟨g, 0, none⟩), .int .i64 0]) ∧ X'.d = X.d ∧ Dm w' X' S5 ∧ Chg X.foot W w' ∧ (∀ g ∈ X'.foot, g ∈ X.foot ∨ W.heap.size ≤ g) ∧ LgAt w' g X.d nm 0 0 ∧ W.heap.size ≤ g ∧ g ∉ X'.foot := fun W hb => (hnew W hb).mono fun e w' ⟨X', q1, q2, q3, q4, q5⟩ => by
   rcases q5 with ⟨q, _⟩ | ⟨_, g, q6, q7, q8, q9⟩
   ·exact absurd rfl q
   ·exact ⟨g, X', q6, q1, q2, q3, q4, q7, q8, q9⟩
  have HNEW := Lib.hid hnew2
  have HR := Lib.hid hR
  clear hnew hnew2 hR h
  go_enter Tryz.func131, Tryz.ntmps131
  go_wp2_with fail
  with_reducible refine HNU.out.mono ?_
  rintro e w3 ⟨rfl, hb3⟩
  have hdb := below_drew hb3
  go_wp2_with fail
  refine wp_region_held_drew (S := fun w' => BoxO w' 106 Y.s (Y.cells X.d V)) rfl (HX.out.below hdb) (fun hSw => ?_)
  refine wpAnyH_take (i := 0) (v := ?vfr0) rfl (by kernel_rfl) (by kernel_rfl) (by kernel_rfl) (fun _ _ _ h => h) (Or.inl ⟨by rfl, ?hfr0⟩) hSw ?kfr0
  case hfr0 => (intro w hSw; (have k0 := hSw.cell 0; simp only [Yw.cells, List.getElem?_cons_zero] at k0); go_simp; try (with_reducible rfl))
  go_simp
  refine wpAnyH_take (i := 1) (v := ?vfr1) rfl (by kernel_rfl) (by kernel_rfl) (by kernel_rfl) (fun _ _ _ h => h) (Or.inl ⟨by rfl, ?hfr1⟩) hSw ?kfr1
  case hfr1 => (intro w hSw; (have k0 := hSw.cell 0; simp only [Yw.cells, List.getElem?_cons_zero] at k0); go_simp; try (with_reducible rfl))
  go_simp
  refine wpAnyH_take (i := 2) (v := ?vfr2) rfl (by kernel_rfl) (by kernel_rfl) (by kernel_rfl) (fun _ _ _ h => h) (Or.inl ⟨by rfl, ?hfr2⟩) hSw ?kfr2
  case hfr2 => (intro w hSw; (have k0 := hSw.cell 0; simp only [Yw.cells, List.getElem?_cons_zero] at k0); go_simp; try (with_reducible rfl))
  go_simp
  refine wpAnyH_take (i := 3) (v := ?vfr3) rfl (by kernel_rfl) (by kernel_rfl) (by kernel_rfl) (fun _ _ _ h => h) (Or.inl ⟨by rfl, ?hfr3⟩) hSw ?kfr3
  case hfr3 => (intro w hSw; (have k0 := hSw.cell 0; simp only [Yw.cells, List.getElem?_cons_zero] at k0); go_simp; try (with_reducible rfl))
  go_simp
  refine wpAnyH_take (i := 4) (v := ?vfr4) rfl (by kernel_rfl) (by kernel_rfl) (by kernel_rfl) (fun _ _ _ h => h) (Or.inl ⟨by rfl, ?hfr4⟩) hSw ?kfr4
  case hfr4 => (intro w hSw; (have k0 := hSw.cell 0; simp only [Yw.cells, List.getElem?_cons_zero] at k0); go_simp; try (with_reducible rfl))
  go_simp
  refine wpAnyH_ready (rs := [5]) (by kernel_rfl) (by simp) ?_
  refine AllReadyH.cons rfl (fun K hK => ?_) AllReadyH.nil
  go_simp
  with_reducible refine (HNM.out _ hdb).mono ?_
  rintro e w4 ⟨rfl, hb4⟩
  go_simp
  refine hK.out _ _ (hSw.below hb4) (fun hSn => ?_)
  clear hK K hSw
  have hSw := hSn
  clear hSn
  go_simp
  refine wpAnyH_ready (rs := [6]) (by kernel_rfl) (by simp) ?_
  refine AllReadyH.cons rfl (fun K hK => ?_) AllReadyH.nil
  go_simp
  with_reducible refine (HNEW.out _ (later_ hdb hb4)).mono ?_
  rintro e w5 ⟨g, X5, rfl, e5, hdm5, hc5, hf5, hlg, hgl, hgo⟩
  go_simp
  refine hK.out _ _ (hSw.chg hc5 (HH.out.apart.x _ (Yw.mem_foot.2 (.inl rfl)))) (fun hSn => ?_)
  clear hK K hSw
  have hSw := hSn
  clear hSn
  go_simp
  refine wpAnyH_take (i := 7) (v := ?vfr7) rfl (by kernel_rfl) (by kernel_rfl) (by kernel_rfl) (fun _ _ _ h => h) (Or.inl ⟨by rfl, ?hfr7⟩) hSw ?kfr7
  case hfr7 => (intro w hSw; (have k0 := hSw.cell 0; simp only [Yw.cells, List.getElem?_cons_zero] at k0); go_simp; try (with_reducible rfl))
  go_simp
  refine wpAnyH_take (i := 8) (v := ?vfr8) rfl (by kernel_rfl) (by kernel_rfl) (by kernel_rfl) (fun _ _ _ h => h) (Or.inl ⟨by rfl, ?hfr8⟩) hSw ?kfr8
  case hfr8 => (intro w hSw; (have k0 := hSw.cell 0; simp only [Yw.cells, List.getElem?_cons_zero] at k0); go_simp; try (with_reducible rfl))
  go_simp
  refine wpAnyH_take (i := 9) (v := ?vfr9) rfl (by kernel_rfl) (by kernel_rfl) (by kernel_rfl) (fun _ _ _ h => h) (Or.inl ⟨by rfl, ?hfr9⟩) hSw ?kfr9
  case hfr9 => (intro w hSw; (have k0 := hSw.cell 0; simp only [Yw.cells, List.getElem?_cons_zero] at k0); go_simp; try (with_reducible rfl))
  go_simp
  refine wpAnyH_take (i := 10) (v := ?vfr10) rfl (by kernel_rfl) (by kernel_rfl) (by kernel_rfl) (fun _ _ _ h => h) (Or.inl ⟨by rfl, ?hfr10⟩) hSw ?kfr10
  case hfr10 => (intro w hSw; (have k0 := hSw.cell 0; simp only [Yw.cells, List.getElem?_cons_zero] at k0); go_simp; try (with_reducible rfl))
  go_simp
  refine wpAnyH_take (i := 11) (v := ?vfr11) rfl (by kernel_rfl) (by kernel_rfl) (by kernel_rfl) (fun _ _ _ h => h) (Or.inl ⟨by rfl, ?hfr11⟩) hSw ?kfr11
  case hfr11 => (intro w hSw; (have k0 := hSw.cell 0; simp only [Yw.cells, List.getElem?_cons_zero] at k0); go_simp; try (with_reducible rfl))
  go_simp
  refine wpAnyH_done (by kernel_rfl) ?_ _
  have hb4w := later_ hdb hb4
  obtain ⟨k5, hc5x, hf5x⟩ := (k1.below hb4w).diskE e5 hdm5 hc5 hf5
  have hgw : w.heap.size ≤ g := Nat.le_trans hb4w.size hgl
  have hgy : g ∉ XY X5 Y := fun hm => by
   rcases List.mem_append.1 hm with q | q
   ·exact hgo q
   ·have := hylt g q
    omega
  have hg5 := hlg.lt
  have hsy := lsync_any X5 S5 g nm 0 0 w5 hnn hdm5 (by rw [e5]; exact hlg) hgo
  obtain ⟨b, hb⟩ : ∃ b, b = S5.sync nm := ⟨_, rfl⟩
  rw [← hb] at hsy
  have HRb : Hid (R = b) := Lib.hid (HR.out.trans hb.symm)
  obtain ⟨S6, er6⟩ := b
  simp only at hsy
  have HSY := Lib.hid hsy
  have HL := Lib.hid hlg
  have HK5 := Lib.hid k5
  have HG := Lib.hid (And.intro hgw (And.intro hgy (And.intro hg5 hgo)))
  have HY := Lib.hid hylt
  clear hsy hlg k5 hgw hgy hg5 hgo hb hc5x hf5x hc5 hf5 hdm5 e5 hb4w hb4 hdb hb3 hSw HNEW HNM HX HR HNU k1 hylt HH
  go_wp2
  go_loopw [36] (fun i wr => i = .int .i64 0 ∧ wr = w5) (fun i _ => 0)
  case atStart => exact ⟨rfl, rfl⟩
  case round =>
   obtain ⟨rfl, rfl⟩ := hrel
   go_wp2_with fail
   with_reducible refine HSY.out.mono ?_
   rintro e w6 ⟨rfl, X6, e6, hd6, hc6, hf6⟩
   obtain ⟨k6, hc6x, hf6x⟩ := HK5.out.diskE e6 hd6 hc6 hf6
   have hl6 := HL.out.chg hc6 HG.out.2.2.2
   have hg6 : g ∉ XY X6 Y := fun hm => by
    rcases hf6x g hm with q | q
    ·exact HG.out.2.1 q
    ·have := HG.out.2.2.1
     omega
   have HZ := Lib.hid (And.intro k6 (And.intro hl6 hg6))
   clear k6 hl6 hg6 hc6 hf6 hd6 e6 hc6x hf6x HSY
   go_wp2
   refine bodyPost_ret (v := .tuple #[.pointer (some ⟨g, 0, none⟩), .int .i64 n, .int .i64 (er6 : Int)]) (by simp [results, go_sem]) rfl ?_
   rw [HRb.out]
   exact ⟨_, _, X6, rfl, HZ.out.1.d, HZ.out.1.at_, HZ.out.1.c, HZ.out.1.f, fun _ => ⟨g, rfl, rfl, by rw [← HNM2.out]; exact HZ.out.2.1, HG.out.1, HZ.out.2.2⟩⟩
 ·rw [if_pos he5] at hR
  have hnew2 : ∀ W, Below w.heap.size w W → Calls Tryz.prog 101 #[.pointer (some ⟨X.d, 0, none⟩), .string (str nm)] W fun e w' => ∃ X', e = .returned (.tuple #[.pointer none, .int .i64 (er5 : Int)]) ∧ X'.d = X.d ∧ Dm w' X' S5 ∧ Chg X.foot W w' ∧ (∀ g ∈ X'.foot, g ∈ X.foot ∨ W.heap.size ≤ g) := fun W hb => (hnew W hb).mono fun e w' ⟨X', q1, q2, q3, q4, q5⟩ => by
   rcases q5 with ⟨_, q⟩ | ⟨q, _⟩
   ·exact ⟨X', q, q1, q2, q3, q4⟩
   ·exact absurd q he5
  have HNEW := Lib.hid hnew2
  have HR := Lib.hid hR
  clear hnew hnew2 hR h
  go_enter Tryz.func131, Tryz.ntmps131
  go_wp2_with fail
  with_reducible refine HNU.out.mono ?_
  rintro e w3 ⟨rfl, hb3⟩
  have hdb := below_drew hb3
  go_wp2_with fail
  refine wp_region_held_drew (S := fun w' => BoxO w' 106 Y.s (Y.cells X.d V)) rfl (HX.out.below hdb) (fun hSw => ?_)
  refine wpAnyH_take (i := 0) (v := ?vfs0) rfl (by kernel_rfl) (by kernel_rfl) (by kernel_rfl) (fun _ _ _ h => h) (Or.inl ⟨by rfl, ?hfs0⟩) hSw ?kfs0
  case hfs0 => (intro w hSw; (have k0 := hSw.cell 0; simp only [Yw.cells, List.getElem?_cons_zero] at k0); go_simp; try (with_reducible rfl))
  go_simp
  refine wpAnyH_take (i := 1) (v := ?vfs1) rfl (by kernel_rfl) (by kernel_rfl) (by kernel_rfl) (fun _ _ _ h => h) (Or.inl ⟨by rfl, ?hfs1⟩) hSw ?kfs1
  case hfs1 => (intro w hSw; (have k0 := hSw.cell 0; simp only [Yw.cells, List.getElem?_cons_zero] at k0); go_simp; try (with_reducible rfl))
  go_simp
  refine wpAnyH_take (i := 2) (v := ?vfs2) rfl (by kernel_rfl) (by kernel_rfl) (by kernel_rfl) (fun _ _ _ h => h) (Or.inl ⟨by rfl, ?hfs2⟩) hSw ?kfs2
  case hfs2 => (intro w hSw; (have k0 := hSw.cell 0; simp only [Yw.cells, List.getElem?_cons_zero] at k0); go_simp; try (with_reducible rfl))
  go_simp
  refine wpAnyH_take (i := 3) (v := ?vfs3) rfl (by kernel_rfl) (by kernel_rfl) (by kernel_rfl) (fun _ _ _ h => h) (Or.inl ⟨by rfl, ?hfs3⟩) hSw ?kfs3
  case hfs3 => (intro w hSw; (have k0 := hSw.cell 0; simp only [Yw.cells, List.getElem?_cons_zero] at k0); go_simp; try (with_reducible rfl))
  go_simp
  refine wpAnyH_take (i := 4) (v := ?vfs4) rfl (by kernel_rfl) (by kernel_rfl) (by kernel_rfl) (fun _ _ _ h => h) (Or.inl ⟨by rfl, ?hfs4⟩) hSw ?kfs4
  case hfs4 => (intro w hSw; (have k0 := hSw.cell 0; simp only [Yw.cells, List.getElem?_cons_zero] at k0); go_simp; try (with_reducible rfl))
  go_simp
  refine wpAnyH_ready (rs := [5]) (by kernel_rfl) (by simp) ?_
  refine AllReadyH.cons rfl (fun K hK => ?_) AllReadyH.nil
  go_simp
  with_reducible refine (HNM.out _ hdb).mono ?_
  rintro e w4 ⟨rfl, hb4⟩
  go_simp
  refine hK.out _ _ (hSw.below hb4) (fun hSn => ?_)
  clear hK K hSw
  have hSw := hSn
  clear hSn
  go_simp
  refine wpAnyH_ready (rs := [6]) (by kernel_rfl) (by simp) ?_
  refine AllReadyH.cons rfl (fun K hK => ?_) AllReadyH.nil
  go_simp
  with_reducible refine (HNEW.out _ (later_ hdb hb4)).mono ?_
  rintro e w5 ⟨X5, rfl, e5, hdm5, hc5, hf5⟩
  go_simp
  refine hK.out _ _ (hSw.chg hc5 (HH.out.apart.x _ (Yw.mem_foot.2 (.inl rfl)))) (fun hSn => ?_)
  clear hK K hSw
  have hSw := hSn
  clear hSn
  go_simp
  refine wpAnyH_take (i := 7) (v := ?vfs7) rfl (by kernel_rfl) (by kernel_rfl) (by kernel_rfl) (fun _ _ _ h => h) (Or.inl ⟨by rfl, ?hfs7⟩) hSw ?kfs7
  case hfs7 => (intro w hSw; (have k0 := hSw.cell 0; simp only [Yw.cells, List.getElem?_cons_zero] at k0); go_simp; try (with_reducible rfl))
  go_simp
  refine wpAnyH_take (i := 8) (v := ?vfs8) rfl (by kernel_rfl) (by kernel_rfl) (by kernel_rfl) (fun _ _ _ h => h) (Or.inl ⟨by rfl, ?hfs8⟩) hSw ?kfs8
  case hfs8 => (intro w hSw; (have k0 := hSw.cell 0; simp only [Yw.cells, List.getElem?_cons_zero] at k0); go_simp; try (with_reducible rfl))
  go_simp
  refine wpAnyH_take (i := 9) (v := ?vfs9) rfl (by kernel_rfl) (by kernel_rfl) (by kernel_rfl) (fun _ _ _ h => h) (Or.inl ⟨by rfl, ?hfs9⟩) hSw ?kfs9
  case hfs9 => (intro w hSw; (have k0 := hSw.cell 0; simp only [Yw.cells, List.getElem?_cons_zero] at k0); go_simp; try (with_reducible rfl))
  go_simp
  refine wpAnyH_take (i := 10) (v := ?vfs10) rfl (by kernel_rfl) (by kernel_rfl) (by kernel_rfl) (fun _ _ _ h => h) (Or.inl ⟨by rfl, ?hfs10⟩) hSw ?kfs10
  case hfs10 => (intro w hSw; (have k0 := hSw.cell 0; simp only [Yw.cells, List.getElem?_cons_zero] at k0); go_simp; try (with_reducible rfl))
  go_simp
  refine wpAnyH_take (i := 11) (v := ?vfs11) rfl (by kernel_rfl) (by kernel_rfl) (by kernel_rfl) (fun _ _ _ h => h) (Or.inl ⟨by rfl, ?hfs11⟩) hSw ?kfs11
  case hfs11 => (intro w hSw; (have k0 := hSw.cell 0; simp only [Yw.cells, List.getElem?_cons_zero] at k0); go_simp; try (with_reducible rfl))
  go_simp
  refine wpAnyH_done (by kernel_rfl) ?_ _
  obtain ⟨k5, _, _⟩ := (k1.below (later_ hdb hb4)).diskE e5 hdm5 hc5 hf5
  have e5i : ((er5 : Int) == 0) = false := by simp; omega
  have HZ := Lib.hid k5
  have HE := Lib.hid he5
  clear k5 hc5 hf5 hdm5 e5 hb4 hdb hb3 hSw HNEW HNM HX HNU k1 HH he5
  go_wp2
  refine bodyPost_ret (v := .tuple #[.pointer none, .int .i64 0, .int .i64 (er5 : Int)]) (by simp [results, go_sem]) rfl ?_
  rw [HR.out]
  exact ⟨_, _, _, rfl, HZ.out.d, HZ.out.at_, HZ.out.c, HZ.out.f, fun h0 => absurd h0 HE.out⟩
end Go.Proofs.YtpdaolongmgmgaaGreatDoor
namespace Go.Proofs.YtpdaolongmgmgaaGreatDoor
open Go Go.RowKit Go.Lib Go.Shelf
variable {w w1 w2 : World} {X X1 X2 : Dw} {S S1 S2 : Sd} {Y Y1 Y2 : Yw} {V V1 V2 : Sv}
theorem info_held : (Tryz.prog.info? 154).map (fun i => (i.zero, i.size, i.bytes)) = some (some (.agg #[.int .i64 0, .int .i64 0, .pointer none]), 3, 24) := by kernel_rfl
theorem hcells_one (q : List Tq) : ∀ u ∈ hcells q, u.oneCell' = true := by
 intro u hu
 simp only [hcells, List.mem_flatMap, List.mem_cons, List.not_mem_nil, or_false] at hu
 obtain ⟨a, _, rfl | rfl | rfl⟩ := hu <;> rfl
set_option maxRecDepth 100000 in
set_option maxHeartbeats 1000000 in
theorem hclone_any (A : Option Addr) (n c : Nat) (q : List Tq) (w : World) (hn : n ≤ 1000000) (h0 : A = none → n = 0 ∧ c = 0) (hr : Row w.heap.size w A n 3 (hcells q)) :
  Calls Tryz.prog 86 #[.slice A n c] w fun e w' => ∃ A' c', e = .returned (.slice A' n c') ∧ w'.ownsRow w.heap.size 154 3 (.slice A' n c') n (hcells q) ∧ Below w.heap.size w w' := by
 obtain ⟨i0, hi0, hz0, hz1, hz2⟩ := info_parts info_held
 have HR := Lib.hid hr
 have hlen := hr.len
 clear hr
 cases A with
 | none =>
  obtain ⟨rfl, rfl⟩ := h0 rfl
  rw [hcells_length] at hlen
  have hq : q = [] := List.length_eq_zero_iff.1 (by omega)
  subst hq
  clear HR hlen
  have hnil : ∀ W, (binOp .eql 89 (.slice none 0 0) (.slice none 0 0)).run Tryz.prog W = .ok (.bool true) W := fun W => by kernel_rfl
  go_enter Tryz.func86, Tryz.ntmps86
  go_wp2
  go_ret
  exact ⟨none, 0, rfl, World.ownsRow_nil _ _ _ _, Below.refl _ _⟩
 | some p =>
  clear hlen h0
  go_enter Tryz.func86, Tryz.ntmps86
  have ho0 : (w.alloc (.cells #[] 154)).ownsRow w.heap.size 154 3 (.slice (some ⟨w.heap.size, 0, none⟩) 0 0) 0 [] := ⟨rfl, .inr ⟨w.heap.size, 0, #[], rfl, Nat.le_refl _, heap_alloc_new w _, Nat.le_refl _, by decide, rfl, rfl⟩⟩
  have hb0 := (Below.refl w.heap.size w).alloc (Nat.le_refl _) (.cells #[] 154)
  have HO := Lib.hid ho0
  have HB := Lib.hid hb0
  have HR2 := Lib.hid (HR.out.below hb0)
  clear ho0 hb0
  have hnil : ∀ W, (binOp .eql 89 (.slice (some p) n c) (.slice none 0 0)).run Tryz.prog W = .ok (.bool false) W := fun W => Lib.run_eql_slice_some_nil (e := 154) W _ _ _ (by kernel_rfl)
  go_wp2_with (at_builtin; refine stop_in ?_)
  refine stop_out (wpList_app rfl (.tmp 5) (.tmp 6) _ rfl w.heap.size 154 i0 _ 3 24 Tryz.underlying89 hi0 hz0 hz1 hz2 rfl (by omega) w HB.out HB.out.size _ 0 [] rfl HO.out w.heap.size _ n c (hcells q) rfl HR2.out (hcells_one q) n _ (Nat.zero_add n) (List.nil_append _) (by unfold maxLen; omega) (by omega) ?_)
  intro A3 c3 w3 z1 z2 z3 z4 z5
  have HF := Lib.hid z1
  clear z1 z3 HO HB HR2
  go_wp2
  go_ret
  exact ⟨A3, c3, rfl, HF.out, z2⟩
set_option maxRecDepth 100000 in
set_option maxHeartbeats 4000000 in
theorem sflush1_any {w0 : World} {X0 : Dw} {S0 : Sd} {P1 : Sl} {M1 : Gs} {b1 : Bool} (h0 : SvAt w0 X0 S0 Y V) (hc : Chg (XY X0 Y) w0 w1) (hf : ∀ g ∈ XY X1 Y, g ∈ XY X0 Y ∨ w0.heap.size ≤ g) (h : SvAt w1 X1 S1 { Y with P := P1 } { V with M := M1, only := b1 })
  (gt gg gs g' : Nat) (T : Sl) (q : List Tq) (n : Int) (ts : List ((Int × Int) × List (List It))) (bt : BoxO w1 89 gt [.slice T.a T.n T.c]) (bg : BoxO w1 88 gg [.pointer (some ⟨g', 0, none⟩)]) (bs : BoxO w1 23 gs [.pointer (some ⟨Y.s, 0, none⟩)])
  (ngt : gt ≠ Y.s) (ngg : gg ≠ Y.s) (ngs : gs ≠ Y.s) (hl : LgAt w1 g' X1.d (Mn.name Mn.kLog n) 0 0) (hg0 : w0.heap.size ≤ g') (hg1 : g' ∉ XY X1 Y) (hP : P1 = Y.P ∨ ∀ a, P1.a = some a → g' < a.block) (ht : Fixed (g' :: XY X1 Y) w1 fun w => TabsAt w T q ts) :
  Calls Tryz.prog 137 #[.pointer (some ⟨gt, 0, none⟩), .pointer (some ⟨gg, 0, none⟩), .pointer (some ⟨gs, 0, none⟩)] w1 fun e w' => e = .returned (.tuple #[]) ∧ SvUpdB w0.heap.size X1 { Y with P := P1 } w1 w' S1 (St.turned n ts { V with M := M1, only := b1 }) := by
 have hyl := h.lt
 have hnx : ∀ g ∈ Y.foot, g ∉ X1.foot := h.apart.x
 have aps : Y.s ∉ Y.m :: Y.g :: Y.mm :: skF Y.L Y.ns := h.apart.s
 have apm : Y.m ∉ Y.g :: Y.mm :: skF Y.L Y.ns := h.apart.m
 have hsx : Y.s ∈ Y.foot := Yw.mem_foot.2 (.inl rfl)
 have hmx : Y.m ∈ Y.foot := Yw.mem_foot.2 (.inr (.inl rfl))
 have hgl := hl.lt
 have hfin : ∀ (mm L : Nat) (ns : List Nd) (w' : World), Chg [Y.s] w1 w' → BoxO w' 106 Y.s ({ Y with P := P1, g := g', mm := mm, L := L, ns := ns, T := T, q := q }.cells X1.d { V with M := M1, only := b1 }) → MmAt w' mm L ns → its ns = [] → (∀ g ∈ mm :: skF L ns, w1.heap.size ≤ g) → SvUpdB w0.heap.size X1 { Y with P := P1 } w1 w' S1 (St.turned n ts { V with M := M1, only := b1 }) := by
  intro mm L ns w' c hbx hmm hits hlow
  have c2 : Chg (XY X1 Y) w1 w' := c.mono fun g hg => .inl (by rw [List.mem_singleton.1 hg]; exact List.mem_append_right _ hsx)
  have hf2 : ∀ g ∈ XY X1 { Y with P := P1, g := g', mm := mm, L := L, ns := ns, T := T, q := q }, g = g' ∨ g ∈ XY X1 Y ∨ w1.heap.size ≤ g := fun g hg => by
   rcases List.mem_append.1 hg with q | q
   ·exact .inr (.inl (List.mem_append_left _ q))
   ·rcases Yw.mem_foot.1 q with q | q | q | q | q
    ·exact .inr (.inl (List.mem_append_right _ (Yw.mem_foot.2 (.inl q))))
    ·exact .inr (.inl (List.mem_append_right _ (Yw.mem_foot.2 (.inr (.inl q)))))
    ·exact .inl q
    ·exact .inr (.inr (hlow g (by rw [show g = mm from q]; exact List.mem_cons_self)))
    ·exact .inr (.inr (hlow g (List.mem_cons_of_mem _ q)))
  have hs1 : Y.s < w1.heap.size := hyl _ (List.mem_append_right _ hsx)
  have hm1 : Y.m < w1.heap.size := hyl _ (List.mem_append_right _ hmx)
  have hgm : g' ∉ mm :: skF L ns := fun hm => by have := hlow g' hm; omega
  refine ⟨X1, { Y with P := P1, g := g', mm := mm, L := L, ns := ns, T := T, q := q }, rfl, rfl, ⟨h.dm.chg c (fun g hg => by rw [List.mem_singleton.1 hg]; exact ⟨hnx _ hsx, h.ng _ hsx⟩), hbx, h.man.chg c (fun hm => aps (by rw [← List.mem_singleton.1 hm]; exact List.mem_cons_self)), ?_, ?_, hl.chg c (fun hm => hg1 (by rw [List.mem_singleton.1 hm]; exact List.mem_append_right _ hsx)), hmm, hits, ht.step (c.mono fun g hg => .inl (by rw [List.mem_singleton.1 hg]; exact List.mem_cons_of_mem _ (List.mem_append_right _ hsx))) (fun g hg => ?_), h0.st.step (hc.trans c2 hf) (fun g hg => ?_), ⟨?_, ?_, ?_, hgm⟩, ?_⟩, c2, fun g hg => ?_⟩
  ·exact ⟨(row_chg c h.row.row (Nat.le_refl _) (fun j hj a ha hm => h.pout j hj a ha (by rw [List.mem_singleton.1 hm]; exact hsx))).up c.size, h.row.nc, h.row.cm, h.row.nb, h.row.away⟩
  ·intro j hj a ha hm
   have hp := h.pout j hj a ha
   obtain ⟨a', e, q1, _⟩ := h.row.row.cell j hj
   rw [ha] at e
   injection e with e
   subst e
   rcases Yw.mem_foot.1 hm with q | q | q | q | q
   ·exact hp (Yw.mem_foot.2 (.inl q))
   ·exact hp (Yw.mem_foot.2 (.inr (.inl q)))
   ·have q2 : a.block = g' := q
    rcases hP with rfl | hP
    ·obtain ⟨a', e, q3, _⟩ := h0.row.row.cell j (by
      have l1 := h.row.row.len
      have l2 := h0.row.row.len
      rw [l2, ← l1]
      exact hj)
     rw [ha] at e
     injection e with e
     subst e
     omega
    ·have := hP a ha
     omega
   ·have := hlow _ (show a.block ∈ mm :: skF L ns by rw [show a.block = mm from q]; exact List.mem_cons_self)
    omega
   ·have := hlow _ (List.mem_cons_of_mem mm q)
    omega
  ·rcases hf2 g hg with q | q | q
   ·exact .inl (by rw [q]; exact List.mem_cons_self)
   ·exact .inl (List.mem_cons_of_mem _ q)
   ·exact .inr q
  ·rcases hf2 g hg with q | q | q
   ·exact .inr (by rw [q]; exact hg0)
   ·exact hf g q
   ·exact .inr (Nat.le_trans hc.size q)
  ·intro g hg hm
   have hm2 := hyl g (List.mem_append_left _ hm)
   rcases hf2 g (List.mem_append_right _ hg) with q | q | q
   ·exact hg1 (List.mem_append_left _ (by rw [← q]; exact hm))
   ·rcases List.mem_append.1 q with q2 | q2
    ·rcases Yw.mem_foot.1 hg with q | q | q | q | q
     ·exact hnx _ hsx (by rw [← show g = Y.s from q]; exact hm)
     ·exact hnx _ hmx (by rw [← show g = Y.m from q]; exact hm)
     ·exact hg1 (List.mem_append_left _ (by rw [← show g = g' from q]; exact hm))
     ·have := hlow g (by rw [show g = mm from q]; exact List.mem_cons_self)
      omega
     ·have := hlow g (List.mem_cons_of_mem _ q)
      omega
    ·exact hnx g q2 hm
   ·omega
  ·intro hm
   rcases List.mem_cons.1 hm with q | q
   ·exact aps (by rw [show Y.s = Y.m from q]; exact List.mem_cons_self)
   ·rcases List.mem_cons.1 q with q | q
    ·exact hg1 (by rw [← show Y.s = g' from q]; exact List.mem_append_right _ hsx)
    ·have := hlow Y.s q
     omega
  ·intro hm
   rcases List.mem_cons.1 hm with q | q
   ·exact hg1 (by rw [← show Y.m = g' from q]; exact List.mem_append_right _ hmx)
   ·have := hlow Y.m q
    omega
  ·intro g hg
   have hb := h.dm.env.base
   have hb0 := h0.dm.env.base
   rcases hf2 g (List.mem_append_right _ hg) with q | q | q
   ·omega
   ·rcases List.mem_append.1 q with q2 | q2
    ·exact h.dm.base g q2
    ·exact h.ng g q2
   ·omega
  ·rcases hf2 g hg with q | q | q
   ·exact .inr (by omega)
   ·exact .inl q
   ·exact .inr (Nat.le_trans hc.size q)
 have hmn := mmnew_any w1.drew
 have HF := Lib.hid hfin
 have HMN := Lib.hid hmn
 have HB := Lib.hid h.box
 have HN := Lib.hid (And.intro ngt (And.intro ngg ngs))
 have HT3 : Hid (BoxO w1.drew 89 gt [.slice T.a T.n T.c] ∧ BoxO w1.drew 88 gg [.pointer (some ⟨g', 0, none⟩)] ∧ BoxO w1.drew 23 gs [.pointer (some ⟨Y.s, 0, none⟩)]) := Lib.hid ⟨bt, bg, bs⟩
 clear hfin hmn h bt bg bs ngt ngg ngs h0 hc hf hyl hnx aps apm hsx hmx hgl hl hg0 hg1 hP ht
 have hs3 : ∀ (W : World) (j : Nat) (u : Value), (BoxO W 89 gt [.slice T.a T.n T.c] ∧ BoxO W 88 gg [.pointer (some ⟨g', 0, none⟩)] ∧ BoxO W 23 gs [.pointer (some ⟨Y.s, 0, none⟩)]) → (BoxO (W.setCell ⟨Y.s, j, none⟩ u) 89 gt [.slice T.a T.n T.c] ∧ BoxO (W.setCell ⟨Y.s, j, none⟩ u) 88 gg [.pointer (some ⟨g', 0, none⟩)] ∧ BoxO (W.setCell ⟨Y.s, j, none⟩ u) 23 gs [.pointer (some ⟨Y.s, 0, none⟩)]) := fun W j u ⟨a, b, c⟩ => by
  have k : Chg [Y.s] W (W.setCell ⟨Y.s, j, none⟩ u) := (Chg.refl _ _).setCell _ (.inl (by simp))
  exact ⟨a.chg k (by simpa using HN.out.1), b.chg k (by simpa using HN.out.2.1), c.chg k (by simpa using HN.out.2.2)⟩
 have HS3 := Lib.hid hs3
 clear hs3
 go_enter Tryz.func137, Tryz.ntmps137
 go_wp2_with fail
 refine wp_region_held_drew (S := fun w' => BoxO w' 89 gt [.slice T.a T.n T.c] ∧ BoxO w' 88 gg [.pointer (some ⟨g', 0, none⟩)] ∧ BoxO w' 23 gs [.pointer (some ⟨Y.s, 0, none⟩)]) rfl HT3.out (fun hSw => ?_)
 refine wpAnyH_take (i := 0) (v := ?vf10) rfl (by kernel_rfl) (by kernel_rfl) (by kernel_rfl) (fun _ _ _ h => h) (Or.inl ⟨by rfl, ?hf10⟩) hSw ?kf10
 case hf10 => (intro w hSw; (have k0 := hSw.1.cell 0; have k1 := hSw.2.1.cell 0; have k2 := hSw.2.2.cell 0; simp only [List.getElem?_cons_zero] at k0 k1 k2); go_simp; try (with_reducible rfl))
 go_simp
 refine wpAnyH_take (i := 1) (v := ?vf11) rfl (by kernel_rfl) (by kernel_rfl) (by kernel_rfl) (fun _ _ _ h => h) (Or.inl ⟨by rfl, ?hf11⟩) hSw ?kf11
 case hf11 => (intro w hSw; (have k0 := hSw.1.cell 0; have k1 := hSw.2.1.cell 0; have k2 := hSw.2.2.cell 0; simp only [List.getElem?_cons_zero] at k0 k1 k2); go_simp; try (with_reducible rfl))
 go_simp
 refine wpAnyH_take (i := 2) (v := ?vf12) rfl (by kernel_rfl) (by kernel_rfl) (by kernel_rfl) (fun _ _ _ h => h) (Or.inl ⟨by rfl, ?hf12⟩) hSw ?kf12
 case hf12 => (intro w hSw; (have k0 := hSw.1.cell 0; have k1 := hSw.2.1.cell 0; have k2 := hSw.2.2.cell 0; simp only [List.getElem?_cons_zero] at k0 k1 k2); go_simp; try (with_reducible rfl))
 go_simp
 refine wpAnyH_take (i := 3) (v := ?vf13) rfl (by kernel_rfl) (by kernel_rfl) (by kernel_rfl) (fun _ _ _ h => h) (Or.inl ⟨by rfl, ?hf13⟩) hSw ?kf13
 case hf13 => (intro w hSw; (have k0 := hSw.1.cell 0; have k1 := hSw.2.1.cell 0; have k2 := hSw.2.2.cell 0; simp only [List.getElem?_cons_zero] at k0 k1 k2); go_simp; try (with_reducible rfl))
 go_simp
 refine wpAnyH_take (i := 4) (v := ?vf14) rfl (by kernel_rfl) (by kernel_rfl) (by kernel_rfl) (fun _ _ _ h => h) (Or.inl ⟨by rfl, ?hf14⟩) hSw ?kf14
 case hf14 => (intro w hSw; (have k0 := hSw.1.cell 0; have k1 := hSw.2.1.cell 0; have k2 := hSw.2.2.cell 0; simp only [List.getElem?_cons_zero] at k0 k1 k2); go_simp; try (with_reducible rfl))
 go_simp
 refine wpAnyH_ready (rs := [5]) (by kernel_rfl) (by simp) ?_
 refine AllReadyH.cons rfl (fun K hK => ?_) AllReadyH.nil
 go_simp
 with_reducible refine HMN.out.mono ?_
 rintro e w3 ⟨mm, L, ns, rfl, hmm, hits, hb3, hlow⟩
 go_simp
 refine hK.out _ _ ⟨hSw.1.below hb3, hSw.2.1.below hb3, hSw.2.2.below hb3⟩ (fun hSn => ?_)
 clear hK K hSw
 have hSw := hSn
 clear hSn
 go_simp
 refine wpAnyH_take (i := 6) (v := ?vf16) rfl (by kernel_rfl) (by kernel_rfl) (by kernel_rfl) (fun _ _ _ h => h) (Or.inl ⟨by rfl, ?hf16⟩) hSw ?kf16
 case hf16 => (intro w hSw; (have k0 := hSw.1.cell 0; have k1 := hSw.2.1.cell 0; have k2 := hSw.2.2.cell 0; simp only [List.getElem?_cons_zero] at k0 k1 k2); go_simp; try (with_reducible rfl))
 go_simp
 refine wpAnyH_take (i := 7) (v := ?vf17) rfl (by kernel_rfl) (by kernel_rfl) (by kernel_rfl) (fun _ _ _ h => h) (Or.inl ⟨by rfl, ?hf17⟩) hSw ?kf17
 case hf17 => (intro w hSw; (have k0 := hSw.1.cell 0; have k1 := hSw.2.1.cell 0; have k2 := hSw.2.2.cell 0; simp only [List.getElem?_cons_zero] at k0 k1 k2); go_simp; try (with_reducible rfl))
 go_simp
 refine wpAnyH_ready (rs := [8]) (by kernel_rfl) (by simp) ?_
 refine AllReadyH.cons rfl (fun K hK => ?_) AllReadyH.nil
 (have hB := BoxO.below (show BoxO w1.drew _ _ _ from HB.out) hb3; have qq := hB.cell 4; have z := hB.free 4; simp only [Yw.cells, List.getElem?_cons_zero, List.getElem?_cons_succ] at qq)
 go_simp
 refine hK.out _ _ (HS3.out _ _ _ hSw) (fun hSn => ?_)
 clear hK K hSw
 have hSw := hSn
 clear hSn
 go_simp
 refine wpAnyH_take (i := 9) (v := ?vf19) rfl (by kernel_rfl) (by kernel_rfl) (by kernel_rfl) (fun _ _ _ h => h) (Or.inl ⟨by rfl, ?hf19⟩) hSw ?kf19
 case hf19 => (intro w hSw; (have k0 := hSw.1.cell 0; have k1 := hSw.2.1.cell 0; have k2 := hSw.2.2.cell 0; simp only [List.getElem?_cons_zero] at k0 k1 k2); go_simp; try (with_reducible rfl))
 go_simp
 refine wpAnyH_take (i := 10) (v := ?vf110) rfl (by kernel_rfl) (by kernel_rfl) (by kernel_rfl) (fun _ _ _ h => h) (Or.inl ⟨by rfl, ?hf110⟩) hSw ?kf110
 case hf110 => (intro w hSw; (have k0 := hSw.1.cell 0; have k1 := hSw.2.1.cell 0; have k2 := hSw.2.2.cell 0; simp only [List.getElem?_cons_zero] at k0 k1 k2); go_simp; try (with_reducible rfl))
 go_simp
 refine wpAnyH_ready (rs := [11]) (by kernel_rfl) (by simp) ?_
 refine AllReadyH.cons rfl (fun K hK => ?_) AllReadyH.nil
 (have hB2 := hB.store 4 (.slice T.a T.n T.c); have q2 := hB2.cell 2; have z2 := hB2.free 2; simp only [Yw.cells, List.set, List.getElem?_cons_zero, List.getElem?_cons_succ] at q2)
 go_simp
 refine hK.out _ _ (HS3.out _ _ _ hSw) (fun hSn => ?_)
 clear hK K hSw
 have hSw := hSn
 clear hSn
 go_simp
 refine wpAnyH_take (i := 12) (v := ?vf112) rfl (by kernel_rfl) (by kernel_rfl) (by kernel_rfl) (fun _ _ _ h => h) (Or.inl ⟨by rfl, ?hf112⟩) hSw ?kf112
 case hf112 => (intro w hSw; (have k0 := hSw.1.cell 0; have k1 := hSw.2.1.cell 0; have k2 := hSw.2.2.cell 0; simp only [List.getElem?_cons_zero] at k0 k1 k2); go_simp; try (with_reducible rfl))
 go_simp
 refine wpAnyH_take (i := 13) (v := ?vf113) rfl (by kernel_rfl) (by kernel_rfl) (by kernel_rfl) (fun _ _ _ h => h) (Or.inl ⟨by rfl, ?hf113⟩) hSw ?kf113
 case hf113 => (intro w hSw; (have k0 := hSw.1.cell 0; have k1 := hSw.2.1.cell 0; have k2 := hSw.2.2.cell 0; simp only [List.getElem?_cons_zero] at k0 k1 k2); go_simp; try (with_reducible rfl))
 go_simp
 refine wpAnyH_ready (rs := [14]) (by kernel_rfl) (by simp) ?_
 refine AllReadyH.cons rfl (fun K hK => ?_) AllReadyH.nil
 (have hB3 := hB2.store 2 (.pointer (some ⟨g', 0, none⟩)); have q3 := hB3.cell 3; have z3 := hB3.free 3; simp only [Yw.cells, List.set, List.getElem?_cons_zero, List.getElem?_cons_succ] at q3)
 go_simp
 refine hK.out _ _ (HS3.out _ _ _ hSw) (fun hSn => ?_)
 clear hK K hSw
 have hSw := hSn
 clear hSn
 go_simp
 refine wpAnyH_done (by kernel_rfl) ?_ _
 have hB4 := hB3.store 3 (.pointer (some ⟨mm, 0, none⟩))
 have hcc : Chg [Y.s] w3 (((w3.setCell ⟨Y.s, 4, none⟩ (.slice T.a T.n T.c)).setCell ⟨Y.s, 2, none⟩ (.pointer (some ⟨g', 0, none⟩))).setCell ⟨Y.s, 3, none⟩ (.pointer (some ⟨mm, 0, none⟩))) := (((Chg.refl [Y.s] w3).setCell _ (.inl (by simp))).setCell _ (.inl (by simp))).setCell _ (.inl (by simp))
 have hsl : Y.s < w1.heap.size := BoxO.lt HB.out
 have hz := HF.out mm L ns _ ((Chg.of_below (below_drew (Below.refl _ _) |>.trans hb3) [Y.s]).trans hcc (fun g hg => .inl hg)) hB4 (hmm.chg hcc (fun g hg hm => by
  have q1 := hlow g hg
  have q2 := List.mem_singleton.1 hm
  have q3 : w1.drew.heap.size = w1.heap.size := rfl
  omega)) hits hlow
 have HZ := Lib.hid hz
 clear hz hB hB2 hB3 hB4 qq q2 q3 z z2 z3 hcc hmm hits hlow hSw HF HMN HS3 HT3 hb3 hsl
 go_wp2
 exact bodyPost_end (v := .tuple #[]) (by simp [results, go_sem]) rfl ⟨rfl, HZ.out⟩
end Go.Proofs.YtpdaolongmgmgaaGreatDoor
namespace Go.Proofs.YtpdaolongmgmgaaGreatDoor
open Go Go.RowKit Go.Lib
set_option maxRecDepth 100000 in
set_option maxHeartbeats 2000000 in
theorem keep_any (K : Nat) (hF : ∀ args w, (callFunc K args).run Tryz.prog w = .ok (.enter K args) w) (capt : Array Value) (P : It → Bool) (A : Option Addr) (n c : Nat) (l : List It) (w : World) (hn : n ≤ 1000000) (hr : Row w.heap.size w A n 5 (itc l))
  (hK : ∀ x w1, Below w.heap.size w w1 → Calls Tryz.prog K (#[x.val] ++ capt) w1 fun e w' => e = .returned (.bool (P x)) ∧ Below w1.heap.size w1 w') :
  Calls Tryz.prog 90 #[.slice A n c, .func (.func K) #[] capt] w (RefPost w (l.filter P)) := by
 have hnn := hr.itlen
 obtain ⟨i0, hi0, hz0, hz1, hz2⟩ := info_parts info_item
 have HF := Lib.hid hF
 have HK := Lib.hid hK
 clear hF hK
 go_enter Tryz.func90, Tryz.ntmps90
 go_wp2
 go_loopw [5, 10] (fun v i wr => ∃ (k q : Nat) (A2 : Option Addr) (c2 : Nat), k ≤ n ∧ v = .slice A2 q c2 ∧ i = .int .i64 (k : Int) ∧ Hid (q = ((l.take k).filter P).length ∧ wr.ownsRow w.heap.size 41 5 (.slice A2 q c2) q (itc ((l.take k).filter P))) ∧ Below w.heap.size w wr) (fun _ i _ => n - (intOf i).toNat)
 case atStart => exact ⟨0, 0, none, 0, Nat.zero_le _, rfl, rfl, Lib.hid ⟨rfl, World.ownsRow_nil _ _ _ _⟩, Below.refl _ _⟩
 case round =>
  obtain ⟨k, q, A2, c2, hk, rfl, rfl, HQ, hbl⟩ := hrel
  by_cases hlt : k < n
  ·obtain ⟨p, hl, rfl, hbk, c0, c1, c2', c3, c4⟩ := (hr.below hbl).it hlt
   have hft := filt_take (P := P) hl
   have hql : q ≤ 1000000 := by
    have h1 := HQ.out.1
    have h2 := List.length_filter_le P (l.take k)
    rw [List.length_take] at h2
    omega
   generalize l[k] = x at *
   have hbV := hbl.alloc hbl.size (.cells #[.int .i64 x.s, .int .i64 x.k, .int .u64 (x.t : Int), .int .u64 (x.v : Int), .int .i64 x.x] 41)
   have hbo := (Below.refl wr.heap.size wr).alloc (Nat.le_refl _) (.cells #[.int .i64 x.s, .int .i64 x.k, .int .u64 (x.t : Int), .int .u64 (x.v : Int), .int .i64 x.x] 41)
   have hbx : BoxO (wr.alloc (.cells #[.int .i64 x.s, .int .i64 x.k, .int .u64 (x.t : Int), .int .u64 (x.v : Int), .int .i64 x.x] 41)) 41 wr.heap.size x.cells := BoxO.new wr #[.int .i64 x.s, .int .i64 x.k, .int .u64 (x.t : Int), .int .u64 (x.v : Int), .int .i64 x.x] 41
   have hkk := HK.out x _ hbV
   unfold It.val at hkk
   obtain ⟨b, hb⟩ : ∃ b, b = P x := ⟨_, rfl⟩
   rw [← hb] at hkk hft
   have HKK := Lib.hid hkk
   have HFT := Lib.hid hft
   clear hkk hft hb
   go_wp2_with fail
   rw [HF.out, Oper.upon_enter]
   refine HKK.out.mono ?_
   rintro e w2 ⟨rfl, hb2⟩
   have hb3 := later_ hbV (hb2)
   have ho3 := own_below (own_below HQ.out.2 hbo) hb2
   have hbx2 := hbx.below hb2
   generalize wr.heap.size = g at *
   cases b with
   | false =>
    have H3 := Lib.hid (And.intro (show q = ((l.take (k + 1)).filter P).length by rw [HFT.out]; simpa using HQ.out.1) (show w2.ownsRow w.heap.size 41 5 (.slice A2 q c2) q (itc ((l.take (k + 1)).filter P)) by rw [HFT.out]; simpa using ho3))
    clear HKK HFT HQ ho3 hbx hbx2 hbo c0 c1 c2' c3 c4
    go_wp2
    go_roundw
    case rel => exact ⟨k + 1, q, A2, c2, by omega, rfl, by go_num, H3.out, hb3⟩
    case measure => simp [intOf]; omega
   | true =>
    have b0 := hbx2.cell 0
    have b1 := hbx2.cell 1
    have b2 := hbx2.cell 2
    have b3 := hbx2.cell 3
    have b4 := hbx2.cell 4
    simp only [It.cells, List.getElem?_cons_zero, List.getElem?_cons_succ] at b0 b1 b2 b3 b4
    have hvb : BoxO (w2.alloc (.cells #[.int .i64 x.s, .int .i64 x.k, .int .u64 (x.t : Int), .int .u64 (x.v : Int), .int .i64 x.x] 41)) 41 w2.heap.size x.cells := BoxO.new w2 #[.int .i64 x.s, .int .i64 x.k, .int .u64 (x.t : Int), .int .u64 (x.v : Int), .int .i64 x.x] 41
    have hbA := (Below.refl w2.heap.size w2).alloc (Nat.le_refl _) (.cells #[.int .i64 x.s, .int .i64 x.k, .int .u64 (x.t : Int), .int .u64 (x.v : Int), .int .i64 x.x] 41)
    have ho4 := own_below ho3 hbA
    have hb4 := later_ hb3 hbA
    have hrow := irow_box hvb
    have HX := Lib.hid (show itc ((l.take k).filter P) ++ x.cells = itc ((l.take (k + 1)).filter P) by rw [HFT.out, if_pos rfl, itc_append]; simp [itc])
    have HQ1 := Lib.hid (show q + 1 = ((l.take (k + 1)).filter P).length by rw [HFT.out, if_pos rfl, List.length_append, ← HQ.out.1]; rfl)
    have HR := Lib.hid hrow
    have HO := Lib.hid ho4
    have HB := Lib.hid hb4
    clear HKK HFT HQ ho3 ho4 hbx hbx2 hbo c0 c1 c2' c3 c4 hrow hvb hbA hb4
    go_wp2_with (at_builtin; refine stop_in ?_)
    refine stop_out (wpList_app rfl (.tmp 17) (.tmp 19) _ rfl w.heap.size 41 i0 _ 5 40 Tryz.underlying38 hi0 hz0 hz1 hz2 rfl (by omega) w HB.out HB.out.size _ q (itc ((l.take k).filter P)) rfl HO.out (w2.alloc (.cells #[.int .i64 x.s, .int .i64 x.k, .int .u64 (x.t : Int), .int .u64 (x.v : Int), .int .i64 x.x] 41)).heap.size _ 1 1 x.cells rfl HR.out (fun v hv => itc_one [x] v (by simpa [itc] using hv)) (q + 1) _ rfl HX.out (by unfold maxLen; omega) (by omega) ?_)
    intro A3 c3 w5 h1 h2 h3 h4 h5
    have H5 := Lib.hid (And.intro HQ1.out h1)
    clear h1 h3 HQ1 HX HR HO HB b0 b1 b2 b3 b4
    go_wp2
    go_roundw
    case rel => exact ⟨k + 1, q + 1, A3, c3, by omega, rfl, by go_num, H5.out, h2⟩
    case measure => simp [intOf]; omega
  ·have hall : l.take k = l := List.take_of_length_le (by omega)
   have hq := HQ.out
   rw [hall] at hq
   obtain ⟨A3, c3, hv, hqc, hqm, hlow⟩ := own_form hq.2
   injection hv with e1 e2 e3
   subst e1 e3
   have hits : Its w.heap.size wr A2 q c2 (l.filter P) := ⟨Row.own hq.2, hqc, hqm, fun p hp => (hlow p hp).1⟩
   have HFF := Lib.hid (And.intro hq.1 hits)
   clear hits hq hall hlow hqc hqm HQ
   go_wp2
   go_ret
   exact ⟨A2, q, c2, rfl, HFF.out.1, HFF.out.2, hbl⟩
end Go.Proofs.YtpdaolongmgmgaaGreatDoor
