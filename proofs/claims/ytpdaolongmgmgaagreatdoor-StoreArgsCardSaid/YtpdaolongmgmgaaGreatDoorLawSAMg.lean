/-
 The walk of StoreArgs.
-/
import Derived.Test.YtpdaolongmgmgaaGreatDoorBunAW
namespace Go.Proofs.YtpdaolongmgmgaaGreatDoor
open Go Go.RowKit Go.Lib Go.Shelf
variable {w w1 w2 : World} {X X1 X2 : Dw} {S S1 S2 : Sd} {Y Y1 Y2 : Yw} {V V1 V2 : Sv}
theorem x_number (r k : List UInt8) (hk : k = Mn.kLog ∨ k = Mn.kTab ∨ k = Mn.kMan) : Mn.number (120 :: r) k = none := by
 unfold Mn.number
 rcases hk with rfl | rfl | rfl <;>
 ·rw [if_neg]
  simp [Lib.hasPrefix, Mn.kLog, Mn.kTab, Mn.kMan, List.isPrefixOf]
theorem x_own (r : List UInt8) : St.isOwn (120 :: r) = false := by
 unfold St.isOwn
 simp only [List.any_cons, List.any_nil, x_number r _ (.inl rfl), x_number r _ (.inr (.inl rfl)), x_number r _ (.inr (.inr rfl))]
 simp [Mw.kCur, Mw.kTemp]
theorem create_bad {d : Sd} {s : List UInt8} (h : Sd.named s = false) : (d.create s).2 ≠ 0 := by
 unfold Sd.create Sd.call
 simp [h]
structure ArgD (nm b : List UInt8) (S2 : Sd) : Prop where
 calm : Calm S2
 cont_ : cont S2 = upd (fun _ => none) nm (some b)
 quota : S2.quota = 1048576
theorem arg_disk {nm b : List UInt8} (hn : Sd.named nm = true) (hb : b.length ≤ 500) : ((Sd.new 1048576).create nm).2 = 0 ∧ ArgD nm b (((Sd.new 1048576).create nm).1.append nm b).1 := by
 have hc := Calm.new 1048576 (by omega)
 obtain ⟨a1, a2, a3, a4⟩ := hc.create hn (by rw [Calm.cont_new]) (by simp [Sd.new])
 rw [Calm.cont_new] at a3
 have hs : Small ((Sd.new 1048576).create nm).1 [nm] 0 := ⟨fun s x hx => by
  rw [a3, upd] at hx
  split at hx
  ·subst_vars; simp
  ·exact absurd hx (by simp), fun s x hx => by
  rw [a3, upd] at hx
  split at hx
  ·injection hx with hx; subst hx; simp
  ·cases hx⟩
 obtain ⟨ln, lu⟩ := a2.length_names hs
 have hq : (Sd.new 1048576).quota = 1048576 := rfl
 obtain ⟨b1, b2, b3, b4⟩ := a2.append hn (x := []) (by rw [a3, upd, if_pos rfl]) b (by simp; omega) (by rw [a4, hq]; simp at lu; omega)
 refine ⟨a1, b2, ?_, by rw [b4, a4, hq]⟩
 rw [b3, a3]
 funext t
 unfold upd
 split <;> simp
theorem ArgD.born {r b : List UInt8} {S2 : Sd} (h : ArgD (120 :: r) b S2) (hb : b.length ≤ 500) (hn : Sd.named (120 :: r) = true) : (∀ s ∈ S2.list, St.isOwn s = false) ∧ ∃ S3 V3, St.create S2 = (S3, some V3, 0) ∧ S3.read (120 :: r) = (b, 0) ∧ Calm S3 := by
 have hno : ∀ s x, cont S2 s = some x → St.isOwn s = false := fun s x hx => by
  rw [h.cont_, upd] at hx
  split at hx
  ·subst_vars; exact x_own r
  ·cases hx
 refine ⟨fun s hs => ?_, ?_⟩
 ·obtain ⟨x, hx⟩ := h.calm.mem_list.1 hs
  exact hno s x hx
 ·have hs0 : Small S2 [120 :: r] 2100 := ⟨fun s x hx => by
   rw [h.cont_, upd] at hx
   split at hx
   ·subst_vars; simp
   ·exact absurd hx (by simp), fun s x hx => by
   rw [h.cont_, upd] at hx
   split at hx
   ·injection hx with hx; subst hx; omega
   ·cases hx⟩
  obtain ⟨d6, q1, q2, q3, q4⟩ := create_other h.calm hs0 (by simp) hno (Nat.le_refl _) (by rw [h.quota]; simp)
  refine ⟨d6, _, q1, q2.read hn ?_, q2⟩
  have n1 : (120 :: r) ≠ Mw.kTemp := by simp [Mw.kTemp]
  have n2 : (120 :: r) ≠ Mw.kCur := by simp [Mw.kCur]
  have n3 : (120 :: r) ≠ Mw.man 1 := fun e => by
   have := x_number r Mn.kMan (.inr (.inr rfl))
   rw [e] at this
   rw [Mw.number_man (by omega) (by omega)] at this
   cases this
  have n4 : (120 :: r) ≠ St.kLog1 := by simp [St.kLog1]
  rw [q4]
  unfold upd
  rw [if_neg n1, if_neg n2, if_neg n1, if_neg n3, if_neg n4, h.cont_]
  unfold upd
  rw [if_pos rfl]
theorem dead_of (d : Sd) : (d.setStop 0).dead = true := by simp [Sd.setStop]
theorem Dm.stopped (h : Dm w X S) (hd : DK w1 X (S.setStop 0)) (c : Chg [X.d] w w1) : Dm w1 X (S.setStop 0) :=
 ⟨hd, h.wf.setStop 0 (by omega), h.env.chg c (fun g hg => by rw [List.mem_singleton.1 hg]; exact h.base _ (by simp [Dw.foot])), h.base⟩
set_option maxRecDepth 100000 in
set_option maxHeartbeats 16000000 in
theorem storeArgs_walk (s : ByteArray) (A : Option Addr) (n c : Nat) (l : List UInt8) (he : Env w) (hn : n ≤ c) (hc : c ≤ maxLen) (hr : Row w.heap.size w A n 1 (bts l)) (hA : ∀ a, A = some a → a.block < w.heap.size) :
  Calls Tryz.prog 3 #[.string s, .slice A n c] w fun e w' => e = .returned (.bool true) ∧ Below w.heap.size w w' := by
 have hll := hr.btlen
 have hop := sopen_nil w
 have hdn := dnew_any 1048576 w
 have HOP := Lib.hid hop
 have HDN := Lib.hid hdn
 have HE := Lib.hid he
 have HLL := Lib.hid hll
 clear hop hdn he hll
 by_cases hbig : 12 < s.size ∨ 500 < n
 ·have hend : ∀ w1 X, DK w1 X (Sd.new 1048576) → Below w.heap.size w w1 → Calls Tryz.prog 14 #[] w1 fun e w' => e = .returned (.bool true) ∧ Below w.heap.size w w' := fun w1 X _ hb => (wawake_any (HE.out.below hb)).mono fun e w' ⟨q1, q2⟩ => ⟨q1, later_ hb q2⟩
  have HEND := Lib.hid hend
  clear hend
  by_cases h12 : 12 < s.size
  ·have e1 : ((12 : Int) < (s.size : Int)) = True := eq_true (by omega)
   clear hbig h12
   go_enter Tryz.func3, Tryz.ntmps3
   go_wp2_with fail
   with_reducible refine HOP.out.mono ?_
   rintro e w0 ⟨rfl, hw0⟩
   obtain rfl := hw0.symm
   go_wp2_with fail
   with_reducible refine HDN.out.mono ?_
   rintro e w1 ⟨X, rfl, hdk, hb1, hfo⟩
   have HW := Lib.hid (HEND.out w1 X hdk hb1)
   clear hdk hb1 hfo
   go_wp2_with fail
   with_reducible refine HW.out.mono ?_
   rintro e w2 ⟨rfl, hb2⟩
   have HB := Lib.hid hb2
   clear hb2
   go_wp2
   go_ret
   exact ⟨rfl, HB.out⟩
  ·have e1 : ((12 : Int) < (s.size : Int)) = False := eq_false (by omega)
   have e2 : ((500 : Int) < (n : Int)) = True := eq_true (by omega)
   clear hbig h12
   go_enter Tryz.func3, Tryz.ntmps3
   go_wp2_with fail
   with_reducible refine HOP.out.mono ?_
   rintro e w0 ⟨rfl, hw0⟩
   obtain rfl := hw0.symm
   go_wp2_with fail
   with_reducible refine HDN.out.mono ?_
   rintro e w1 ⟨X, rfl, hdk, hb1, hfo⟩
   have HW := Lib.hid (HEND.out w1 X hdk hb1)
   clear hdk hb1 hfo
   go_wp2_with fail
   with_reducible refine HW.out.mono ?_
   rintro e w2 ⟨rfl, hb2⟩
   have HB := Lib.hid hb2
   clear hb2
   go_wp2
   go_ret
   exact ⟨rfl, HB.out⟩
 ·have h12 : s.size ≤ 12 := by omega
  have h500 : n ≤ 500 := by omega
  have e1 : ((12 : Int) < (s.size : Int)) = False := eq_false (by omega)
  have e2 : ((500 : Int) < (n : Int)) = False := eq_false (by omega)
  clear hbig
  go_enter Tryz.func3, Tryz.ntmps3
  go_wp2_with fail
  with_reducible refine HOP.out.mono ?_
  rintro e w0 ⟨rfl, hw0⟩
  obtain rfl := hw0.symm
  go_wp2_with fail
  with_reducible refine HDN.out.mono ?_
  rintro e w1 ⟨X, rfl, hdk, hb1, hfo⟩
  have hdm := dm_fresh (q := 1048576) (by omega) HE.out hdk hb1 hfo
  go_wp2_with fail
  obtain ⟨r, hr0⟩ : ∃ r, r = s.data.toList := ⟨_, rfl⟩
  have hnl : (({ data := #[120] } : ByteArray) ++ s).data.toList = 120 :: r := by rw [hr0]; simp
  have hns : (({ data := #[120] } : ByteArray) ++ s).size ≤ maxLen := by
   have : (({ data := #[120] } : ByteArray) ++ s).size = 1 + s.size := by simp [ByteArray.size_append]; rfl
   unfold maxLen
   omega
  obtain ⟨nb, hnb⟩ : ∃ nb, nb = ({ data := #[120] } : ByteArray) ++ s := ⟨_, rfl⟩
  rw [← hnb] at hnl hns ⊢
  have hcr := (Acc.start (F := []) hdm).create nb hns (by show 0 ≤ _; omega)
  rw [hnl] at hcr
  have HB1 := Lib.hid (And.intro hb1 hfo)
  clear hr0 hnb hdk hb1 hfo HDN HOP
  cases hnd : Sd.named (120 :: r) with
  | false =>
   have hne := create_bad (d := Sd.new 1048576) hnd
   obtain ⟨a, ha⟩ : ∃ a, a = (Sd.new 1048576).create (120 :: r) := ⟨_, rfl⟩
   rw [← ha] at hcr hne
   obtain ⟨S1, er1⟩ := a
   simp only at hcr hne
   have e3 : ((er1 : Int) == 0) = false := by simp; omega
   have HCR := Lib.hid hcr
   clear hcr ha hnd hne hdm hnl hns
   with_reducible refine HCR.out.mono ?_
   rintro e w2 ⟨rfl, X2, h2⟩
   have hb2 : Below w.heap.size w w2 := HB1.out.1.trans (h2.c.below HB1.out.1.size (fun g hg => HB1.out.2 g (by simpa using hg)))
   have haw := wawake_any (HE.out.below hb2)
   have HAW := Lib.hid haw
   have HB2 := Lib.hid hb2
   clear haw hb2 h2 HCR
   go_wp2_with fail
   with_reducible refine HAW.out.mono ?_
   rintro e w3 ⟨rfl, hb3⟩
   have HB3 := Lib.hid (later_ HB2.out hb3)
   clear hb3
   go_wp2
   go_ret
   exact ⟨rfl, HB3.out⟩
  | true =>
   obtain ⟨d1, d2⟩ := arg_disk (nm := 120 :: r) (b := l) hnd (by have := HLL.out; omega)
   have hl1 := Sd.create_load (Sd.new 1048576) (120 :: r)
   obtain ⟨a, ha⟩ : ∃ a, a = (Sd.new 1048576).create (120 :: r) := ⟨_, rfl⟩
   rw [← ha] at hcr d1 d2 hl1
   obtain ⟨S1, er1⟩ := a
   simp only at hcr d1 d2 hl1
   subst d1
   obtain ⟨hno, S3, V3, hb3, hrd3, hc3⟩ := d2.born (by have := HLL.out; omega) hnd
   have hl2 : (S1.append (120 :: r) l).1.load ≤ 100 := by
    rw [Sd.append_load]
    have : (Sd.new 1048576).load = 0 := rfl
    omega
   have hcalm2 := d2.calm
   have HCR := Lib.hid hcr
   clear hcr ha hdm hl1
   with_reducible refine HCR.out.mono ?_
   rintro e w2 ⟨rfl, X2, h2⟩
   have hb2 : Below w.heap.size w w2 := HB1.out.1.trans (h2.c.below HB1.out.1.size (fun g hg => HB1.out.2 g (by simpa using hg)))
   have hf2 : ∀ g ∈ X2.foot, w.heap.size ≤ g := fun g hg => (h2.f g hg).elim (HB1.out.2 g) (Nat.le_trans HB1.out.1.size)
   have hap := (Acc.start (F := []) h2.dm).append nb hns A n c l (by omega) ((hr.below hb2).up hb2.size) (fun a ha hm => by
    have z1 := hf2 _ hm
    have := hA a ha
    omega)
   rw [hnl, h2.e] at hap
   obtain ⟨a, ha⟩ : ∃ a, a = S1.append (120 :: r) l := ⟨_, rfl⟩
   rw [← ha] at hap hl2 hno hb3 hcalm2
   obtain ⟨S2, er2⟩ := a
   simp only at hap hl2 hno hb3 hcalm2
   have HAP := Lib.hid hap
   have HB2 := Lib.hid (And.intro hb2 (And.intro hf2 h2.e))
   clear hap ha d2 h2 HCR
   go_wp2_with fail
   with_reducible refine HAP.out.mono ?_
   rintro e w3 ⟨rfl, X3, h3⟩
   have hb3w : Below w.heap.size w w3 := HB2.out.1.trans (h3.c.below HB2.out.1.size (fun g hg => HB2.out.2.1 g (by simpa using hg)))
   have hf3 : ∀ g ∈ X3.foot, w.heap.size ≤ g := fun g hg => (h3.f g hg).elim (HB2.out.2.1 g) (Nat.le_trans HB2.out.1.size)
   have e3 : X3.d = X.d := h3.e.trans HB2.out.2.2
   have hop := sopen_new h3.dm hcalm2.dead hno (by omega) S3 V3 hb3
   rw [e3] at hop
   have HOP := Lib.hid hop
   have HB3 := Lib.hid (And.intro hb3w (And.intro hf3 e3))
   clear hop hb3w hf3 e3 h3 HAP HB2
   go_wp2_with fail
   with_reducible refine HOP.out.mono ?_
   rintro e w4 ⟨X4, Y, rfl, e4, hs4, hc4, hf4⟩
   have hb4w : Below w.heap.size w w4 := HB3.out.1.trans (hc4.below HB3.out.1.size HB3.out.2.1)
   have hf4w : ∀ g ∈ X4.foot, w.heap.size ≤ g := fun g hg => (hf4 g (List.mem_append_left _ hg)).elim (HB3.out.2.1 g) (Nat.le_trans HB3.out.1.size)
   have e4d : X4.d = X.d := e4.trans HB3.out.2.2
   have hrd := (Acc.start (F := []) hs4.dm).read nb hns
   rw [hnl, hrd3, e4d] at hrd
   simp only at hrd
   have HRD := Lib.hid hrd
   have HB4 := Lib.hid (And.intro hb4w (And.intro hf4w (And.intro e4d hs4.dm)))
   clear hrd hb4w hf4w e4d hs4 hc4 hf4 e4 HOP HB3
   go_wp2_with fail
   with_reducible refine HRD.out.mono ?_
   rintro e w5 ⟨A5, c5, rfl, ho5, hb5⟩
   have hdm5 := HB4.out.2.2.2.below hb5
   have hst := stop_any X4 S3 0 w5 hdm5.dk
   rw [HB4.out.2.2.1] at hst
   have hrow5 := Row.own ho5
   have HST := Lib.hid hst
   have HO5 := Lib.hid (And.intro hrow5 (And.intro (fun a ha => (by
    obtain ⟨P', c0, q1, q2, q3, q4⟩ := own_form ho5
    injection q1 with q1 _ _
    subst q1
    exact (q4 a ha).1) : ∀ a, A5 = some a → w4.heap.size ≤ a.block) (And.intro hb5 hdm5)))
   clear hst hrow5 ho5 hdm5 hb5 HRD
   go_wp2_with fail
   with_reducible refine HST.out.mono ?_
   rintro e w6 ⟨rfl, hd6, hc6⟩
   have hdm6 := Dm.stopped HO5.out.2.2.2 hd6 (by rw [HB4.out.2.2.1]; exact hc6)
   have hop6 := sopen_dead hdm6 (dead_of S3)
   rw [HB4.out.2.2.1] at hop6
   have hx4 : X.d ∈ X4.foot := by rw [← HB4.out.2.2.1]; simp [Dw.foot]
   have hb6w : Below w.heap.size w w6 := (HB4.out.1.trans (HO5.out.2.2.1.mono HB4.out.1.size)).trans (hc6.below (Nat.le_trans HB4.out.1.size HO5.out.2.2.1.size) (fun g hg => by rw [List.mem_singleton.1 hg]; exact HB4.out.2.1 _ hx4))
   have hx4l := HB4.out.2.2.2.dk.lt _ hx4
   have hrow6 := (row_chg hc6 HO5.out.1 (Nat.le_refl _) (fun j _ a ha hm => by
    have z1 := HO5.out.2.1 a ha
    have z2 := List.mem_singleton.1 hm
    omega)).up hc6.size
   have q1 := conv_b hrow6 c5
   have q2 := conv_b ((hr.below hb6w).up hb6w.size) c
   have haw := wawake_any (HE.out.below hb6w)
   have HOP := Lib.hid hop6
   have HAW := Lib.hid haw
   have HB6 := Lib.hid hb6w
   clear hop6 haw hb6w hrow6 hdm6 hd6 hc6 hx4 hx4l HST HO5 HB4
   go_wp2_with fail
   with_reducible refine HOP.out.mono ?_
   rintro e w7 ⟨rfl, hw7⟩
   obtain rfl := hw7.symm
   go_wp2_with fail
   with_reducible refine HAW.out.mono ?_
   rintro e w8 ⟨rfl, hb8⟩
   have HB8 := Lib.hid (later_ HB6.out hb8)
   clear hb8
   go_wp2
   go_ret
   exact ⟨rfl, HB8.out⟩
end Go.Proofs.YtpdaolongmgmgaaGreatDoor
