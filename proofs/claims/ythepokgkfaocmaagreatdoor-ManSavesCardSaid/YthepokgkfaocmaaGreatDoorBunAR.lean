/- Texts HosP, HosM, OwnSet, FailQ, PlainCr, PlainOut in one. No conditions. -/
import Derived.Test.YthepokgkfaocmaaGreatDoorBunAQ
import Derived.Test.YthepokgkfaocmaaGreatDoorBunAI
import Derived.Test.YthepokgkfaocmaaGreatDoorBunAC
import Derived.Test.YthepokgkfaocmaaGreatDoorBunAA
import Derived.Test.YthepokgkfaocmaaGreatDoorBunAJ

/-
  ManHostile in plain Lean: what Open tells of a disk whose manifest, or current, holds any text.
-/
namespace Go.Proofs.YthepokgkfaocmaaGreatDoor
open Go Go.RowKit

namespace Crc
theorem add_inj {r s : BitVec 32} {l : List UInt8} (h : add r l = add s l) : r = s := by
  have e := add_reg s (r ^^^ s) l
  rw [← BitVec.xor_assoc, BitVec.xor_comm s r, BitVec.xor_assoc, BitVec.xor_self, BitVec.xor_zero, h] at e
  have e2 : steps (8 * l.length) (r ^^^ s) = 0#32 := by
    have e3 := congrArg (add s l ^^^ ·) e
    simp only [BitVec.xor_self] at e3
    rw [← BitVec.xor_assoc, BitVec.xor_self, BitVec.zero_xor] at e3
    exact e3.symm
  exact xor_eq_zero (steps_null e2)
theorem byte_inj {s : BitVec 32} {c d : UInt8} (h : byte s c = byte s d) : c = d := by
  have e := steps_inj h
  have e2 : BitVec.ofNat 32 c.toNat = BitVec.ofNat 32 d.toNat := by
    have e3 := congrArg (s ^^^ ·) e
    simp only [← BitVec.xor_assoc, BitVec.xor_self, BitVec.zero_xor] at e3
    exact e3
  have e3 := congrArg BitVec.toNat e2
  rw [BitVec.toNat_ofNat, BitVec.toNat_ofNat] at e3
  have h1 := UInt8.toNat_lt c
  have h2 := UInt8.toNat_lt d
  exact UInt8.toNat_inj.1 (by omega)
/-- One byte of sealed bytes that is another is seen. -/
theorem set_bad (l : List UInt8) (i : Nat) (c : UInt8) (hi : i < (sealed l).length) (hc : c ≠ (sealed l)[i]) : sealed (((sealed l).set i c).take l.length) ≠ (sealed l).set i c := by
  have hlen : ((sealed l).set i c).length = l.length + 4 := by rw [List.length_set, sealed_length]
  intro h
  have h2 := (good_iff ((sealed l).set i c) (by omega)).1 (by rw [hlen, show l.length + 4 - 4 = l.length from rfl]; exact h)
  have h3 : (sealed l).set i c = (sealed l).take i ++ (c :: (sealed l).drop (i + 1)) := by
    rw [List.set_eq_take_append_cons_drop, if_pos hi]
  have h4 : sealed l = (sealed l).take i ++ ((sealed l)[i] :: (sealed l).drop (i + 1)) := by
    rw [← List.drop_eq_getElem_cons hi, List.take_append_drop]
  have h5 : add ones (sealed l) = rest := add_sealed l
  rw [h4, add_append] at h5
  rw [h3, add_append] at h2
  have h6 := h2.trans h5.symm
  simp only [add] at h6
  exact hc (byte_inj (add_inj h6))
end Crc

namespace Fr
/-- A record of which one byte is another, or that was cut, is not the record. -/
theorem take_turned (k : Nat) (b : List UInt8) (h1 : 1 ≤ k) (h2 : k ≤ 100) (hb : b.length ≤ 60000) (i : Nat) (c : UInt8) (m : Nat) (hne : ((put k b).set i c).take m ≠ put k b) : (take (((put k b).set i c).take m) 0).2.2.2 ≠ 0 := by
  have hpl := put_length k b
  by_cases hset : (put k b).set i c = put k b
  · rw [hset] at hne ⊢
    have hm : m < (put k b).length := by
      refine Nat.lt_of_not_le fun h => hne (List.take_of_length_le h)
    have := take_cut [] k b m h1 h2 hb hm
    simp only [List.nil_append, List.length_nil] at this
    rw [this]
    simp
  · have hi : i < (put k b).length := Nat.lt_of_not_le fun h => hset (List.set_eq_of_length_le h)
    have hc : c ≠ (put k b)[i] := fun h => hset (by rw [h]; exact List.set_getElem_self hi)
    have hh4 : (head k b.length).length = 4 := rfl
    have hs8 : (Crc.sealed (head k b.length)).length = 8 := by rw [sealed_len, hh4]
    generalize hT : ((put k b).set i c).take m = T
    have hTl : T.length ≤ m ∧ T.length ≤ b.length + 12 := by
      rw [← hT, List.length_take, List.length_set, hpl]
      omega
    unfold take
    rw [Nat.sub_zero, List.drop_zero]
    by_cases h8 : T.length < 8
    · rw [if_pos h8]; simp
    rw [if_neg h8]
    have hm8 : 8 ≤ m := by omega
    rcases Nat.lt_or_ge i 8 with hi8 | hi8
    · have e8 : T.take 8 = (Crc.sealed (head k b.length)).set i c := by
        rw [← hT, List.take_take, Nat.min_eq_left hm8, put, List.set_append, if_pos (by omega), List.take_append_of_le_length (by rw [List.length_set]; omega), List.take_of_length_le (by rw [List.length_set]; omega)]
      have e4 : T.take 4 = ((Crc.sealed (head k b.length)).set i c).take 4 := by
        rw [← e8, List.take_take]
        rfl
      have hget : (put k b)[i] = (Crc.sealed (head k b.length))[i]'(by omega) := by
        simp only [put]
        rw [List.getElem_append_left (by omega)]
      have hbad := Crc.set_bad (head k b.length) i c (by omega) (by rw [← hget]; exact hc)
      rw [hh4] at hbad
      rw [if_pos (by rw [e8, e4]; exact hbad)]
      simp
    · have e8 : T.take 8 = Crc.sealed (head k b.length) := by
        rw [← hT, List.take_take, Nat.min_eq_left hm8, put, List.set_append, if_neg (by omega), List.take_append_of_le_length (by omega), List.take_of_length_le (by omega)]
      have e4 : T.take 4 = head k b.length := by
        have : T.take 4 = (T.take 8).take 4 := by rw [List.take_take]; rfl
        rw [this, e8, Crc.sealed, ← hh4, List.take_left]
      obtain ⟨e0, e1⟩ := head_parts k b.length (T.drop 4) (by omega) hb
      have e5 : head k b.length ++ T.drop 4 = T := by rw [← e4]; exact List.take_append_drop 4 _
      rw [e5] at e0 e1
      rw [e0, e1, e4, e8, if_neg (fun h => h rfl), if_neg (by omega)]
      by_cases hl : T.length - 8 < b.length + 4
      · rw [if_pos hl]; simp
      rw [if_neg hl]
      have hm2 : b.length + 12 ≤ m := by omega
      have ed : T.drop (0 + 8) = (Crc.sealed b).set (i - 8) c := by
        rw [← hT, List.take_of_length_le (by rw [List.length_set, hpl]; omega), put, List.set_append, if_neg (by omega), Nat.zero_add, ← hs8, List.drop_left]
      have hget : (put k b)[i] = (Crc.sealed b)[i - 8]'(by rw [sealed_len]; omega) := by
        simp only [put]
        rw [List.getElem_append_right (by omega)]
        simp only [hs8]
      have hsl : ((Crc.sealed b).set (i - 8) c).length = b.length + 4 := by rw [List.length_set, sealed_len]
      rw [ed, List.take_of_length_le (Nat.le_of_eq hsl), if_pos (Crc.set_bad _ _ _ (by rw [sealed_len]; omega) (by rw [← hget]; exact hc))]
      simp
end Fr

/-- One file is taken away. -/
theorem gone_rest {S : Sd} {t : List UInt8} {cur : Bool} (h : Calm S) (hr : cont S = Mw.rest 1 t) (nm : List UInt8) (hnm : nm = if cur = true then Mw.kCur else Mw.man 1) :
    (S.read nm) = (if cur = true then Mw.headB 1 else t, 0) ∧ (S.remove nm).2 = 0 ∧ Calm (S.remove nm).1 ∧ cont (S.remove nm).1 = upd (Mw.rest 1 t) nm none ∧ (S.remove nm).1.quota = S.quota ∧ Sd.named nm = true := by
  have hn : Sd.named nm = true := by
    rw [hnm]
    split
    · exact Mw.cur_named
    · exact Mw.man_named (Nat.le_refl 1) (by decide)
  have hct : cont S nm = some (if cur = true then Mw.headB 1 else t) := by
    rw [hr, hnm, Mw.rest]
    cases cur
    · simp
    · simp only [if_true]
      rw [if_neg (Mw.man_cur (n := 1) (Nat.le_refl 1) (by decide)).symm]
      rfl
  obtain ⟨a1, a2, a3, a4⟩ := h.remove hn hct
  exact ⟨h.read hn hct, a1, a2, by rw [a3, hr], a4, hn⟩
/-- It is written anew with any bytes. -/
theorem back_rest {S : Sd} {t : List UInt8} {B : Nat} {nm : List UInt8} (h : Calm S) (hr : cont S = upd (Mw.rest 1 t) nm none) (hn : Sd.named nm = true) (ht : t.length ≤ B) (b : List UInt8) (hb : b.length ≤ B) (hB : 2100 ≤ B) (hB2 : B ≤ 200000) (hq : 5 * B ≤ S.quota) :
    (S.create nm).2 = 0 ∧ ((S.create nm).1.append nm b).2 = 0 ∧ Calm ((S.create nm).1.append nm b).1 ∧ cont ((S.create nm).1.append nm b).1 = upd (Mw.rest 1 t) nm (some b) ∧ ((S.create nm).1.append nm b).1.quota = S.quota := by
  have hsm : ∀ f : List UInt8 → Option (List UInt8), (∀ s x, f s = some x → (s = Mw.man 1 ∨ s = Mw.kCur ∨ s = nm) ∧ x.length ≤ B) → ∀ d : Sd, cont d = f → Small d [Mw.man 1, Mw.kCur, nm] B := fun f hf d hd => ⟨fun s x hx => by
    rw [hd] at hx
    rcases (hf s x hx).1 with rfl | rfl | rfl <;> simp, fun s x hx => by
    rw [hd] at hx
    exact (hf s x hx).2⟩
  have e3 : ∀ s x, cont S s = some x → (s = Mw.man 1 ∨ s = Mw.kCur ∨ s = nm) ∧ x.length ≤ B := fun s x hx => by
    rw [hr] at hx
    unfold upd Mw.rest at hx
    split at hx
    · cases hx
    · split at hx
      · injection hx with hx; subst hx; exact ⟨.inl ‹_›, ht⟩
      · split at hx
        · injection hx with hx; subst hx; exact ⟨.inr (.inl ‹_›), by have := headB_len 1; exact Nat.le_trans this (by omega)⟩
        · cases hx
  obtain ⟨l1, l2⟩ := h.length_names (hsm _ e3 S rfl)
  simp only [List.length_cons, List.length_nil] at l1 l2
  obtain ⟨b1, b2, b3, b4⟩ := h.create hn (by rw [hr, upd, if_pos rfl]) (by omega)
  have e4 : ∀ s x, cont (S.create nm).1 s = some x → (s = Mw.man 1 ∨ s = Mw.kCur ∨ s = nm) ∧ x.length ≤ B := fun s x hx => by
    rw [b3] at hx
    unfold upd at hx
    split at hx
    · injection hx with hx; subst hx; exact ⟨.inr (.inr ‹_›), Nat.zero_le _⟩
    · exact e3 s x hx
  generalize S.create nm = P2 at *
  obtain ⟨S2, r2⟩ := P2
  simp only at b1 b2 b3 b4 e4 ⊢
  obtain ⟨m1, m2⟩ := b2.length_names (hsm _ e4 S2 rfl)
  simp only [List.length_cons, List.length_nil] at m1 m2
  obtain ⟨c1, c2, c3, c4⟩ := b2.append hn (x := []) (by rw [b3, upd, if_pos rfl]) b (by simp; omega) (by rw [b4]; omega)
  refine ⟨b1, c1, c2, ?_, by rw [c4, b4]⟩
  rw [c3, b3, hr]
  funext s
  unfold upd
  split <;> rfl
/-- What the law asks of Open. -/
def HosOk (R : Option Gs × Sd × Nat) : Prop := match R with
  | (none, _, er) => er = 9
  | (some M, _, er) => er = 0 ∧ M.v.ok = true
theorem opens_gone {S : Sd} {t : List UInt8} (h : Calm S) (hr : cont S = upd (Mw.rest 1 t) Mw.kCur none) : Gw.opens S = (none, S, 11) := by
  have h1 := h.read_none Mw.cur_named (by rw [hr, upd, if_pos rfl])
  unfold Gw.opens Gw.look
  rw [if_pos (by rw [h1]; decide), h1]
theorem opens_bad {S : Sd} {t b : List UInt8} (h : Calm S) (hr : cont S = upd (Mw.rest 1 t) Mw.kCur (some b)) (hb : (Fr.take b 0).2.2.2 ≠ 0) : Gw.opens S = (none, S, 9) := by
  have h1 := h.read Mw.cur_named (x := b) (by rw [hr, upd, if_pos rfl])
  unfold Gw.opens Gw.look
  rw [h1, if_neg (by simp), Gw.lookC, if_pos (.inl hb)]
theorem look_head {S : Sd} (h1 : S.read Mw.kCur = (Mw.headB 1, 0)) : Gw.look S = Gw.lookT S 1 := by
  have e2 : Mw.headB 1 = Fr.put 8 (Pn.put 1) := rfl
  have e1 := Fr.take_put [] 8 (Pn.put 1) [] (by omega) (by omega) (by have := Pn.put_len 1; omega)
  simp only [List.nil_append, List.append_nil, List.length_nil, Nat.zero_add] at e1
  rw [← e2] at e1
  have e3 := Pn.take_put 1 [] (by decide)
  rw [List.append_nil] at e3
  unfold Gw.look
  rw [h1, if_neg (by simp)]
  unfold Gw.lookC
  rw [e1, if_neg (by simp)]
  unfold Gw.lookN
  rw [e3, if_neg (by simp)]
theorem opens_none {S : Sd} {t : List UInt8} (h : Calm S) (hr : cont S = upd (Mw.rest 1 t) (Mw.man 1) none) : Gw.opens S = (none, S, 9) := by
  have h1 := h.read Mw.cur_named (x := Mw.headB 1) (by rw [hr, upd, if_neg (Mw.man_cur (n := 1) (Nat.le_refl 1) (by decide)).symm, Mw.rest, if_neg (Mw.man_cur (n := 1) (Nat.le_refl 1) (by decide)).symm, if_pos rfl]; rfl)
  have h2 := h.read_none (Mw.man_named (n := 1) (Nat.le_refl 1) (by decide)) (by rw [hr, upd, if_pos rfl])
  unfold Gw.opens
  rw [look_head h1]
  unfold Gw.lookT
  rw [if_pos (by rw [show Mn.name Mn.kMan ((1 : Nat) : Int) = Mw.man 1 from rfl, h2]; decide)]
theorem opens_text {S : Sd} {t : List UInt8} {B : Nat} (h : Calm S) (hr : cont S = Mw.rest 1 t) (ht : t.length ≤ B) (hB : 2100 ≤ B) (hq : 5 * B ≤ S.quota) : HosOk (Gw.opens S) := by
  have h1 := h.read Mw.cur_named (x := Mw.headB 1) (by rw [hr, Mw.rest, if_neg (Mw.man_cur (n := 1) (Nat.le_refl 1) (by decide)).symm, if_pos rfl]; rfl)
  have h2 := h.read (Mw.man_named (n := 1) (Nat.le_refl 1) (by decide)) (x := t) (by rw [hr, Mw.rest, if_pos rfl])
  have e : Gw.look S = match Vw.views t with
    | none => (none, 9)
    | some (v, k, stop) => (some (⟨Mw.man 1, v, k, false⟩, decide (stop < t.length) || decide (30 < k)), 0) := by
    rw [look_head h1]
    unfold Gw.lookT
    rw [show Mn.name Mn.kMan ((1 : Nat) : Int) = Mw.man 1 from rfl, h2, if_neg (by simp)]
    rfl
  unfold Gw.opens
  rw [e]
  cases hv : Vw.views t with
  | none => rfl
  | some p =>
    obtain ⟨v, k, stop⟩ := p
    have hok := Vw.views_ok hv
    simp only
    split
    · have hg : Mn.greatest S.list Mn.kMan = ((1 : Nat) : Int) := greatest_rest h (Nat.le_refl 1) (by decide) hr
      obtain ⟨_, _, _, a4⟩ := Gw.rewrite_rest (M := ⟨Mw.man 1, v, k, false⟩) (n := 1) (k := 2) hok h (by decide) (by decide) (by decide) (by decide) (by decide) hr ht hB hq
      have e2 : Gw.rewriteM S ⟨Mw.man 1, v, k, false⟩ = Gw.rewrite S ⟨Mw.man 1, v, k, false⟩ (Mw.man 2) := by
        unfold Gw.rewriteM
        rw [if_neg (by simp), hg, if_neg (by decide)]
        rfl
      rw [e2, a4]
      exact ⟨rfl, hok⟩
    · exact ⟨rfl, hok⟩
end Go.Proofs.YthepokgkfaocmaaGreatDoor

/-
  How much a rewrite may add to a disk's lists; Saves onto a manifest at rest, change by change.
-/
namespace Go.Proofs.YthepokgkfaocmaaGreatDoor
open Go Go.RowKit

namespace Gw
open Mn
open Mw (kCur kTemp headB sweep sweep_load)
theorem fin_load {d : Sd} (hw : d.Wf) (M : Gs) (nm : List UInt8) : (fin d M nm).1.load ≤ d.load + 64 := by
  have h1 := Sd.syncDir_load d
  have h2 := list_len hw.syncDir
  have h3 := sweep_load nm (d.syncDir).1.list (d.syncDir).1
  unfold fin
  split
  · dsimp only; omega
  · dsimp only; omega
theorem ren_load {d : Sd} (hw : d.Wf) (M : Gs) (nm : List UInt8) : (ren d M nm).1.load ≤ d.load + 65 := by
  have h1 := Sd.rename_load d kTemp kCur
  have h2 := fin_load (hw.rename kTemp kCur) M nm
  unfold ren
  split
  · dsimp only; omega
  · omega
theorem sd1_load {d : Sd} (hw : d.Wf) (M : Gs) (nm : List UInt8) : (sd1 d M nm).1.load ≤ d.load + 65 := by
  have h1 := Sd.syncDir_load d
  have h2 := ren_load hw.syncDir M nm
  unfold sd1
  split
  · dsimp only; omega
  · omega
theorem hd_load {d : Sd} (hw : d.Wf) (M : Gs) (nm : List UInt8) : (hd d M nm).1.load ≤ d.load + 67 := by
  have h1 := Sd.write_load d kTemp (headB ((number nm kMan).getD 0))
  have h2 := sd1_load (hw.write kTemp (headB ((number nm kMan).getD 0))) M nm
  unfold hd
  split
  · dsimp only; omega
  · omega
theorem tmp_load {d : Sd} (hw : d.Wf) (M : Gs) (nm : List UInt8) : (tmp d M nm).1.load ≤ d.load + 68 := by
  have h1 := Sd.remove_load d kTemp
  have h2 := hd_load (hw.remove kTemp) M nm
  have h3 := hd_load hw M nm
  unfold tmp
  split
  · split
    · dsimp only; omega
    · omega
  · omega
theorem rewrite_load {d : Sd} (hw : d.Wf) (M : Gs) (nm : List UInt8) : (rewrite d M nm).1.load ≤ d.load + 70 := by
  have h1 := Sd.write_load d nm M.v.whole.rec_
  have h2 := tmp_load (hw.write nm M.v.whole.rec_) M nm
  unfold rewrite
  split
  · dsimp only; omega
  · omega

theorem rewriteM_load {d : Sd} (hw : d.Wf) (M : Gs) : (rewriteM d M).1.load ≤ d.load + 70 := by
  unfold rewriteM
  split
  · dsimp only; omega
  · split
    · dsimp only; omega
    · exact rewrite_load hw M _
theorem put_load (d : Sd) (M : Gs) (e : Ed) (v : Vw) : (put d M e v).1.load = d.load := by
  unfold put
  split
  · exact Sd.append_load _ _ _
  · split <;> simp [Sd.sync_load, Sd.append_load]
theorem save_load (d : Sd) (M : Gs) (e : Ed) : (save d M e).1.load = d.load := by
  unfold save
  split
  · rfl
  · split
    · rfl
    · split
      · rfl
      · exact put_load _ _ _ _
theorem save_put {d : Sd} {M : Gs} {e : Ed} {v : Vw} (hb : M.broken = false) (he : e.may = true) (hv : M.v.app e = some v) : save d M e = put d M e v := by
  unfold save
  rw [if_neg (by simp [hb]), if_neg (by simp [he]), hv]
end Gw
/-- Behind k Saves of changes that may follow one another. -/
structure HosI (vs : List Vw) (k : Nat) (S : Sd) (M : Gs) (t : List UInt8) : Prop where
  calm : Calm S
  rest : cont S = Mw.rest 1 t
  len : t.length ≤ 2100 * (k + 1)
  pos : 1 ≤ t.length
  quota : S.quota = 1048576
  load : S.load ≤ 100
  name : M.name = Mw.man 1
  broken : M.broken = false
  count : M.count = k + 1
  view : vs[k]? = some M.v
  ok : M.v.ok = true
theorem v1g_ok : v1g.ok = true := by decide
theorem new_eqG : ∃ S1, Gw.rewrite (Sd.new 1048576) ⟨[], v1g, 0, false⟩ (Mw.man 1) = (S1, ⟨Mw.man 1, v1g, 1, false⟩, 0) ∧ ∀ vs : List Vw, vs[0]? = some v1g → ∃ t, HosI vs 0 S1 ⟨Mw.man 1, v1g, 1, false⟩ t := by
  obtain ⟨n1, n2, n3, n4⟩ := Gw.rewrite_new (M := ⟨[], v1g, 0, false⟩) (k := 1) v1g_ok (Calm.new 1048576 (by omega)) (by omega) (by omega) (Calm.cont_new _) (by decide)
  refine ⟨(Gw.rewrite (Sd.new 1048576) ⟨[], v1g, 0, false⟩ (Mw.man 1)).1, Prod.ext rfl (by rw [n4]), fun vs hv => ⟨_, n1, n2, ?_, ?_, n3, ?_, rfl, rfl, rfl, hv, v1g_ok⟩⟩
  · have := Ed.rec_len (Vw.whole_may v1g_ok)
    simp only at this ⊢
    omega
  · rw [Ed.rec_, Fr.put_length]; omega
  · have := Gw.rewrite_load (Sd.new_wf 1048576 (by omega)) ⟨[], v1g, 0, false⟩ (Mw.man 1)
    have e : (Sd.new 1048576).load = 0 := rfl
    omega
theorem HosI.save {gs : List Ed} {vs : List Vw} {k : Nat} {S : Sd} {M : Gs} {t : List UInt8} (h : HosI vs k S M t) (hc : GChain gs vs) (hk : k < gs.length) (h8 : k < 50) : ∃ S' M', Gw.save S M gs[k] = (S', M', 0) ∧ ∃ t', HosI vs (k + 1) S' M' t' := by
  obtain ⟨he, u, v, hu, hv, hap⟩ := hc.step k hk
  have e1 : M.v = u := by have := h.view; rw [hu] at this; injection this with this; exact this.symm
  subst e1
  have hl := h.len
  obtain ⟨a1, a2, a3, a4, a5⟩ := Gw.put_rest (M := M) (v := v) (B := 2100 * (k + 1)) he h.calm (by omega) (by omega) h.rest h.name hl (by omega) (by omega) (by rw [h.quota]; omega)
  have e2 := Gw.save_put (d := S) h.broken he hap
  have hr := Ed.rec_len he
  refine ⟨_, { M with count := M.count + 1, v := v }, by rw [e2]; exact Prod.ext rfl a4, _, a1, a2, ?_, ?_, a3.trans h.quota, by rw [a5]; exact h.load, h.name, h.broken, ?_, hv, Vw.app_ok hap⟩
  · rw [List.length_append]; omega
  · rw [List.length_append]; have := h.pos; omega
  · show M.count + 1 = k + 1 + 1
    rw [h.count]
theorem conv_hos {B n : Nat} {w : World} {A : Option Addr} {l : List UInt8} (h : Row B w A n 1 (bts l)) (c : Nat) : (convert 32 9 (.slice A n c)).run Tryz.prog w = .ok (.string ⟨l.toArray⟩) w :=
  conv_row _ _ 5 Tryz.underlying32 Tryz.underlying5 Tryz.underlying9 h c
theorem Ev.ok.small {B : Nat} {w : World} {x : Ev} (h : x.ok B w) (hm : x.e.may = true) : x.m ≤ 40 ∧ x.n ≤ 40 := by
  have h1 := h.d.len
  have h2 := h.a.flen
  simp only [Ed.may, Bool.and_eq_true, decide_eq_true_eq] at hm
  simp only [icells, List.length_map] at h1
  omega
end Go.Proofs.YthepokgkfaocmaaGreatDoor

/-
  A row that the call owns, its cells set one by one.
-/
namespace Go.Proofs.YthepokgkfaocmaaGreatDoor
open Go Go.RowKit
/-- The block of a row that the call owns. -/
theorem own_box {w : World} {base size n c : Nat} {e : TypeId} {a : Addr} {xs : List Value} (h : w.ownsRow base e size (.slice (some a) n c) n xs) :
    ∃ g cur, a = ⟨g, 0, none⟩ ∧ base ≤ g ∧ BoxO w e g cur ∧ cur.length = c * size ∧ n ≤ c ∧ c ≤ maxLen ∧ cur.take (n * size) = xs := by
  rcases h.2 with ⟨h0, _⟩ | ⟨g, cap, cur, h1, hb, hg, hn, hc, hs, ht⟩
  · cases h0
  · injection h1 with h2 h3 h4
    injection h2 with h2
    subst h2 h4
    exact ⟨g, cur.toList, rfl, hb, by simpa [BoxO] using hg, by simpa using hs, hn, hc, ht⟩
theorem box_own {w : World} {base size n c g : Nat} {e : TypeId} {cur : List Value} (hb : base ≤ g) (h : BoxO w e g cur) (hl : cur.length = c * size) (hn : n ≤ c) (hc : c ≤ maxLen) : w.ownsRow base e size (.slice (some ⟨g, 0, none⟩) n c) n (cur.take (n * size)) :=
  ⟨by rw [List.length_take, hl]; exact Nat.min_eq_left (Nat.mul_le_mul_right _ hn), .inr ⟨g, c, cur.toArray, rfl, hb, h, hn, hc, by simpa using hl, by simp⟩⟩
theorem own_none {w : World} {base size n c : Nat} {e : TypeId} {xs : List Value} (h : w.ownsRow base e size (.slice none n c) n xs) : n = 0 ∧ c = 0 := by
  rcases h.2 with ⟨h0, _⟩ | ⟨g, cap, cur, h1, _⟩
  · injection h0 with _ h1 h2
    exact ⟨h1, h2⟩
  · cases h1
end Go.Proofs.YthepokgkfaocmaaGreatDoor

/-
  A View that is told, held against one of a row: the facts that a walk lays.
-/
namespace Go.Proofs.YthepokgkfaocmaaGreatDoor
open Go Go.RowKit Go.Shelf
variable {P : Sl} {W0 W : World} {X : Dw} {S : Sd} {m : Nat} {M : Gs}
theorem GAt.sees (h : GAt P W0 W X S m M) (y : Vc) (hy : y.ok W0.heap.size W) :
    (∀ w', Below W.heap.size W w' → Calls Tryz.prog 20 #[.pointer (some ⟨m, 0, none⟩)] w' fun e w'' => ∃ A c, e = .returned (.agg #[.int .i64 M.v.log, .slice A P.n c, .int .u64 (M.v.floor : Int), .int .u64 (M.v.cert : Int), .int .u64 (M.v.at_ : Int), .int .u64 (M.v.lease : Int)]) ∧ Fresh w'.heap.size w'' A P.n c M.v.files ∧ Below w'.heap.size w' w'') ∧
    (∀ A c B w', Below W.heap.size W w' → Fresh B w' A P.n c M.v.files → Calls Tryz.prog 27 #[.agg #[.int .i64 M.v.log, .slice A P.n c, .int .u64 (M.v.floor : Int), .int .u64 (M.v.cert : Int), .int .u64 (M.v.at_ : Int), .int .u64 (M.v.lease : Int)], .agg #[.int .i64 y.v.log, .slice y.A y.n y.c, .int .u64 (y.v.floor : Int), .int .u64 (y.v.cert : Int), .int .u64 (y.v.at_ : Int), .int .u64 (y.v.lease : Int)]] w' fun e w'' => e = .returned (.bool (M.v.same y.v)) ∧ Below w'.heap.size w' w'') := by
  have hn := h.row.nb
  have hf := hy.few
  refine ⟨fun w' hb => ?_, fun A c B w' hb hfr => ?_⟩
  · exact (h.below hb).view
  · exact sameview_any M.v y.v A P.n c y.A y.n y.c w' (by omega) (by omega) hfr.row ((hy.row.below (hb.mono h.bel.size)).up (Nat.le_trans h.bel.size hb.size))
theorem Vws.seen {B n : Nat} {w1 : World} {a : Addr} {vs : List Vc} (h : Vws B w1 (some a) n vs) {j : Nat} (hj : j < vs.length) (hb : Below B w1 W) (hB : B ≤ W.heap.size) :
    (vs[j]).ok B W ∧ ∀ w', Below W.heap.size W w' → w'.cell? (a.add (j * 6)) = some (.int .i64 (vs[j]).v.log) ∧ w'.cell? ⟨(a.add (j * 6)).block, (a.add (j * 6)).off + 1, none⟩ = some (.slice (vs[j]).A (vs[j]).n (vs[j]).c) ∧ w'.cell? ⟨(a.add (j * 6)).block, (a.add (j * 6)).off + 2, none⟩ = some (.int .u64 ((vs[j]).v.floor : Int)) ∧
      w'.cell? ⟨(a.add (j * 6)).block, (a.add (j * 6)).off + 3, none⟩ = some (.int .u64 ((vs[j]).v.cert : Int)) ∧ w'.cell? ⟨(a.add (j * 6)).block, (a.add (j * 6)).off + 4, none⟩ = some (.int .u64 ((vs[j]).v.at_ : Int)) ∧ w'.cell? ⟨(a.add (j * 6)).block, (a.add (j * 6)).off + 5, none⟩ = some (.int .u64 ((vs[j]).v.lease : Int)) := by
  have hl := h.len
  refine ⟨((h.below hb).ok _ (List.getElem_mem hj)), fun w' hw => ?_⟩
  obtain ⟨a', hl', e, hlt, c, _⟩ := ((h.below hb).below (hw.mono hB)).at_ (show j < n by omega)
  injection e with e
  subst e
  exact ⟨c.c0, c.c1, c.c2, c.c3, c.c4, c.c5⟩
set_option maxRecDepth 100000 in
theorem gsave_broken (xd : Nat) (h : GK W m xd M P) (hb : M.broken = true) (e : Ed) (D : Option Addr) (dm dd : Nat) (A2 : Option Addr) (n2 c2 : Nat) :
    Calls Tryz.prog 15 #[.pointer (some ⟨m, 0, none⟩), e.val D dm dd A2 n2 c2] W fun x w' => x = .returned (.int .i64 14) ∧ Below W.heap.size W w' := by
  have k1 := (BoxO.alloc h (.cells #[.slice D dm dd, .slice A2 n2 c2, .int .i64 e.log, .int .u64 (e.floor : Int), .int .u64 (e.cert : Int), .int .u64 (e.at_ : Int), .int .u64 (e.lease : Int)] 39)).cell 12
  simp only [Gs.cells, List.getElem?_cons_zero, List.getElem?_cons_succ] at k1
  rw [hb] at k1
  have k2 := h.cell 12
  simp only [Gs.cells, List.getElem?_cons_zero, List.getElem?_cons_succ] at k2
  rw [hb] at k2
  have hbz := (Below.refl W.heap.size W).alloc (Nat.le_refl _) (.cells #[.slice D dm dd, .slice A2 n2 c2, .int .i64 e.log, .int .u64 (e.floor : Int), .int .u64 (e.cert : Int), .int .u64 (e.at_ : Int), .int .u64 (e.lease : Int)] 39)
  unfold Ed.val
  go_enter Tryz.func15, Tryz.ntmps15
  go_wp2
  go_ret
  exact ⟨rfl, by first | exact hbz | exact Below.refl _ _⟩
theorem same_or {u v : Vw} {o : Option Vw} {A B : Prop} (h : o = some v ∨ (false = true ∧ A ∧ B)) (ho : o = some u) {M : Gs} (hM : M.v = v) : M.v.same u = true := by
  rcases h with h | ⟨h, _⟩
  · rw [ho] at h
    rw [Option.some.inj h, hM]
    exact Vw.same_self _
  · cases h
end Go.Proofs.YthepokgkfaocmaaGreatDoor

/-
  A disk apart from its counters: what is on it (Co) and what may stop it (Ct); what a loss of power may leave.
-/
namespace Go.Proofs.YthepokgkfaocmaaGreatDoor
open Go Go.RowKit

/-- What may stop a disk. -/
structure Ct where
  dead : Bool
  stop : Nat
  fail : Nat
def Ct.call (c : Ct) : Ct × Nat :=
  if c.dead = true then (c, 50)
  else if 0 < c.fail then (⟨if 0 < c.stop then decide (c.stop - 1 = 0) else c.dead, if 0 < c.stop then c.stop - 1 else c.stop, c.fail - 1⟩, if c.fail - 1 = 0 then 15 else 0)
  else (⟨if 0 < c.stop then decide (c.stop - 1 = 0) else c.dead, if 0 < c.stop then c.stop - 1 else c.stop, c.fail⟩, 0)
/-- What is on a disk. -/
structure Co where
  quota : Nat
  files : List (List UInt8 × Nat)
  names : Nm
  lasted : Nm
  turns : List Tn
def Sd.co (d : Sd) : Co := ⟨d.quota, d.files, d.names, d.lasted, d.turns⟩
def Sd.ct (d : Sd) : Ct := ⟨d.dead, d.stop, d.fail⟩
/-- Calls lead from one to the other. -/
inductive Ct.Reach : Ct → Ct → Prop
  | refl (a : Ct) : Ct.Reach a a
  | step {a b : Ct} : Ct.Reach a b → Ct.Reach a b.call.1
theorem Ct.Reach.trans {a b c : Ct} (h : Ct.Reach a b) (k : Ct.Reach b c) : Ct.Reach a c := by
  induction k with
  | refl => exact h
  | step _ ih => exact ih.step
theorem Ct.Reach.one (a : Ct) : Ct.Reach a a.call.1 := (Ct.Reach.refl a).step
/-- Nothing stops it. -/
def Ct.hale (c : Ct) : Prop := c.dead = false ∧ c.stop = 0 ∧ c.fail = 0
/-- It does not die. -/
def Ct.live (c : Ct) : Prop := c.dead = false ∧ c.stop = 0
theorem Ct.hale.call {c : Ct} (h : c.hale) : c.call = (c, 0) := by
  obtain ⟨d, s, f⟩ := c
  obtain ⟨h1, h2, h3⟩ := h
  simp only at h1 h2 h3
  subst h1 h2 h3
  rfl
theorem Ct.hale.reach {a b : Ct} (h : a.hale) (r : Ct.Reach a b) : b = a := by
  induction r with
  | refl => rfl
  | step _ ih => rw [ih, h.call]
theorem Ct.live.call {c : Ct} (h : c.live) : c.call.1.live ∧ (c.call.2 = 0 ∨ c.call.2 = 15 ∧ c.call.1.hale) := by
  obtain ⟨d, s, f⟩ := c
  obtain ⟨h1, h2⟩ := h
  simp only at h1 h2
  subst h1 h2
  unfold Ct.call
  by_cases hf : 0 < f
  · by_cases h2 : f - 1 = 0
    · simp [hf, h2, live, hale]
    · simp [hf, h2, live]
  · simp [hf, live]
theorem Ct.live.reach {a b : Ct} (h : a.live) (r : Ct.Reach a b) : b.live := by
  induction r with
  | refl => exact h
  | step _ ih => exact ih.call.1
theorem Ct.nofail {c : Ct} (h : c.fail = 0) : c.call.1.fail = 0 ∧ (c.call.2 = 0 ∨ c.call.2 = 50 ∧ c.dead = true) := by
  obtain ⟨d, s, f⟩ := c
  simp only at h
  subst h
  unfold Ct.call
  cases d <;> simp
theorem Ct.nofail_reach {a b : Ct} (h : a.fail = 0) (r : Ct.Reach a b) : b.fail = 0 := by
  induction r with
  | refl => exact h
  | step _ ih => exact (Ct.nofail ih).1
theorem Ct.dead_call {c : Ct} (h : c.dead = true) : c.call = (c, 50) := by unfold Ct.call; rw [if_pos h]
theorem Ct.dead_reach {a b : Ct} (h : a.dead = true) (r : Ct.Reach a b) : b = a := by
  induction r with
  | refl => rfl
  | step _ ih => rw [ih, Ct.dead_call h]
theorem Ct.call_zero {c : Ct} (h : c.call.2 = 0) : c.dead = false := by
  cases hd : c.dead with
  | false => rfl
  | true => rw [Ct.dead_call hd] at h; cases h

namespace Co
variable (c : Co)
def create (s : List UInt8) : Co := { c with names := c.names.put s c.files.length, turns := c.turns ++ [⟨1, c.files.length, s, []⟩], files := c.files ++ [([], 0)] }
def setFile (i : Nat) (f : List UInt8 × Nat) : Co := { c with files := c.files.set i f }
def rename (a b : List UInt8) : Co := { c with names := Tn.go ⟨2, 0, a, b⟩ c.names, turns := c.turns ++ [⟨2, 0, a, b⟩] }
def remove (s : List UInt8) : Co := { c with names := Tn.go ⟨3, 0, s, []⟩ c.names, turns := c.turns ++ [⟨3, 0, s, []⟩] }
def syncDir : Co := { c with lasted := c.names, turns := [] }
/-- How many bytes there are. -/
def total : Nat := (c.files.map fun f => f.1.length).sum
/-- The files that turns make. -/
def made (l : List Tn) : List Nat := (l.filter fun t => decide (t.kind = 1)).map (·.file)
structure In : Prop where
  apart : Nm.Apart c.names
  lapart : Nm.Apart c.lasted
  lead : Sd.Leads c.names c.files.length
  llead : Sd.Leads c.lasted c.files.length
  inj : ∀ p ∈ c.names, ∀ q ∈ c.names, p.2 = q.2 → p.1 = q.1
  linj : ∀ p ∈ c.lasted, ∀ q ∈ c.lasted, p.2 = q.2 → p.1 = q.1
  nodup : (made c.turns).Nodup
  fresh : ∀ i ∈ made c.turns, i < c.files.length ∧ ∀ p ∈ c.lasted, p.2 ≠ i
  whole : c.names = c.turns.foldl (fun m u => u.go m) c.lasted
  tb : ∀ u ∈ c.turns, u.b.length ≤ 16
/-- How many names there may be behind a loss of power. -/
def most : Nat := c.lasted.length + (made c.turns).length
/-- A name's bytes now, and how many of them last. -/
def Now (s t : List UInt8) (l : Nat) : Prop := ∃ i, c.names.get s = some i ∧ c.files[i]? = some (t, l)
/-- A turn that does not touch a name. -/
def off (s : List UInt8) (t : Tn) : Prop := t.a ≠ s ∧ (t.kind = 2 → t.b ≠ s)
/-- A name that lasts with its file. -/
def Held (s t : List UInt8) (l : Nat) : Prop := ∃ i, c.names.get s = some i ∧ c.lasted.get s = some i ∧ c.files[i]? = some (t, l) ∧ ∀ u ∈ c.turns, off s u
end Co
open Co
variable {c : Co} {s t b : List UInt8} {l : Nat}

theorem Nm.mem_iff {m : Nm} (h : Nm.Apart m) {i : Nat} : m.get s = some i ↔ (s, i) ∈ m := ⟨Nm.get_mem, Nm.mem_get h⟩
theorem go_get {m : Nm} (h : Nm.Apart m) {u : Tn} (ho : off s u) : (u.go m).get s = m.get s := by
  unfold Tn.go
  split
  · exact Nm.get_put_other h ho.1.symm _
  · split
    · split
      · rename_i hk _ i _
        have h2 := ho.2 hk
        rw [Nm.get_del_other (Nm.apart_put h _ _) ho.1.symm, Nm.get_put_other h h2.symm]
      · rfl
    · split
      · exact Nm.get_del_other h ho.1.symm
      · rfl
theorem go_mem {m : Nm} {u : Tn} {p : List UInt8 × Nat} (hp : p ∈ u.go m) : (u.kind = 1 ∧ p = (u.a, u.file)) ∨ ∃ q ∈ m, q.2 = p.2 := by
  unfold Tn.go at hp
  split at hp
  · rcases Nm.mem_put.1 hp with rfl | ⟨h1, _⟩
    · exact .inl ⟨‹_›, rfl⟩
    · exact .inr ⟨p, h1, rfl⟩
  · split at hp
    · split at hp
      · rename_i hg
        obtain ⟨h1, _⟩ := Nm.mem_del.1 hp
        rcases Nm.mem_put.1 h1 with rfl | ⟨h2, _⟩
        · exact .inr ⟨_, Nm.get_mem hg, rfl⟩
        · exact .inr ⟨p, h2, rfl⟩
      · exact .inr ⟨p, hp, rfl⟩
    · split at hp
      · exact .inr ⟨p, (Nm.mem_del.1 hp).1, rfl⟩
      · exact .inr ⟨p, hp, rfl⟩
theorem go_inj {m : Nm} {u : Tn} (h : ∀ p ∈ m, ∀ q ∈ m, p.2 = q.2 → p.1 = q.1) (hf : u.kind = 1 → ∀ p ∈ m, p.2 ≠ u.file) : ∀ p ∈ u.go m, ∀ q ∈ u.go m, p.2 = q.2 → p.1 = q.1 := by
  intro p hp q hq he
  unfold Tn.go at hp hq
  split at hp
  · rename_i hk
    rw [if_pos hk] at hq
    rcases Nm.mem_put.1 hp with rfl | ⟨hp, _⟩ <;> rcases Nm.mem_put.1 hq with rfl | ⟨hq, _⟩
    · rfl
    · exact absurd he.symm (hf hk q hq)
    · exact absurd he (hf hk p hp)
    · exact h p hp q hq he
  · rename_i hk
    rw [if_neg hk] at hq
    split at hp
    · rename_i hk2
      rw [if_pos hk2] at hq
      cases hg : m.get u.a with
      | none => rw [hg] at hp hq; exact h p hp q hq he
      | some i =>
        rw [hg] at hp hq
        simp only at hp hq
        obtain ⟨hp, hpa⟩ := Nm.mem_del.1 hp
        obtain ⟨hq, hqa⟩ := Nm.mem_del.1 hq
        have ham := Nm.get_mem hg
        rcases Nm.mem_put.1 hp with rfl | ⟨hp, _⟩ <;> rcases Nm.mem_put.1 hq with rfl | ⟨hq, _⟩
        · rfl
        · exact absurd (h _ ham q hq (by simpa using he)).symm hqa
        · exact absurd (h p hp _ ham (by simpa using he)) hpa
        · exact h p hp q hq he
    · rename_i hk2
      rw [if_neg hk2] at hq
      split at hp
      · rename_i hk3
        rw [if_pos hk3] at hq
        exact h p (Nm.mem_del.1 hp).1 q (Nm.mem_del.1 hq).1 he
      · rename_i hk3
        rw [if_neg hk3] at hq
        exact h p hp q hq he
theorem go_length {m : Nm} (h : Nm.Apart m) (u : Tn) : (u.go m).length ≤ m.length + if u.kind = 1 then 1 else 0 := by
  unfold Tn.go
  split
  · exact Nm.length_put_le _ _ _
  · split
    · cases hg : m.get u.a with
      | none => simp
      | some i =>
        simp only [Nat.add_zero]
        by_cases hab : u.a = u.b
        · rw [hab]
          have h1 : ((m.put u.b i).del u.b).length < (m.put u.b i).length := Nm.length_del_lt (Nm.get_put_same h _ _)
          have := Nm.length_put_le m u.b i
          omega
        · have hg2 : (m.put u.b i).get u.a = some i := by rw [Nm.get_put_other h hab]; exact hg
          have h1 := Nm.length_del_lt hg2
          have := Nm.length_put_le m u.b i
          omega
    · split
      · exact Nm.length_del_le _ _
      · simp

theorem made_append (a b : List Tn) : made (a ++ b) = made a ++ made b := by simp [made]
namespace Co
theorem Now.get (h : c.Now s t l) : ∃ i, c.names.get s = some i := let ⟨i, a, _⟩ := h; ⟨i, a⟩
theorem Held.now (h : c.Held s t l) : c.Now s t l := let ⟨i, a, _, d, _⟩ := h; ⟨i, a, d⟩
theorem Now.same {t' : List UInt8} {l' : Nat} (h : c.Now s t l) (h' : c.Now s t' l') : t = t' ∧ l = l' := by
  obtain ⟨i, a, b⟩ := h
  obtain ⟨j, a', b'⟩ := h'
  rw [a] at a'
  injection a' with a'
  subst a'
  rw [b] at b'
  injection b' with b'
  injection b' with e1 e2
  exact ⟨e1, e2⟩

/- Create -/
theorem In.create (h : c.In) (hg : c.names.get s = none) : (c.create s).In := by
  have hm : made (c.create s).turns = made c.turns ++ [c.files.length] := by rw [Co.create, made_append]; rfl
  refine ⟨Nm.apart_put h.apart _ _, h.lapart, ?_, fun p hp => ?_, ?_, h.linj, ?_, ?_, by simp only [Co.create]; rw [List.foldl_append, ← h.whole]; rfl, fun u hu => by
    rcases List.mem_append.1 hu with hu | hu
    · exact h.tb u hu
    · rw [List.mem_singleton.1 hu]; exact Nat.zero_le _⟩
  · intro p hp
    simp only [Co.create, List.length_append, List.length_cons, List.length_nil]
    rcases Nm.mem_put.1 hp with rfl | ⟨hp, _⟩
    · simp
    · have := h.lead p hp; omega
  · simp only [Co.create, List.length_append, List.length_cons, List.length_nil]
    have := h.llead p hp; omega
  · intro p hp q hq he
    rcases Nm.mem_put.1 hp with rfl | ⟨hp, _⟩ <;> rcases Nm.mem_put.1 hq with rfl | ⟨hq, _⟩
    · rfl
    · have := h.lead q hq; simp only at he; omega
    · have := h.lead p hp; simp only at he; omega
    · exact h.inj p hp q hq he
  · rw [hm]
    refine List.nodup_append.2 ⟨h.nodup, by simp, fun x hx y hy e => ?_⟩
    have := (h.fresh x hx).1
    simp at hy
    omega
  · rw [hm]
    intro i hi
    simp only [Co.create, List.length_append, List.length_cons, List.length_nil]
    rcases List.mem_append.1 hi with hi | hi
    · obtain ⟨a, b⟩ := h.fresh i hi
      exact ⟨by omega, b⟩
    · simp only [List.mem_singleton] at hi
      subst hi
      exact ⟨by omega, fun p hp e => by have := h.llead p hp; omega⟩
theorem create_most (c : Co) (s : List UInt8) : (c.create s).most = c.most + 1 := by
  unfold most
  rw [Co.create, made_append]
  simp [made]
  omega
theorem create_total (c : Co) (s : List UInt8) : (c.create s).total = c.total := by simp [total, Co.create]
theorem create_new (h : c.In) (s : List UInt8) : (c.create s).Now s [] 0 := ⟨c.files.length, Nm.get_put_same h.apart _ _, by simp [Co.create]⟩
theorem Now.create {u : List UInt8} (h : c.In) (k : c.Now s t l) (hne : s ≠ u) : (c.create u).Now s t l := by
  obtain ⟨i, a, b⟩ := k
  exact ⟨i, (Nm.get_put_other h.apart hne _).trans a, by rw [Co.create]; simp only; rw [List.getElem?_append_left (List.getElem?_eq_some_iff.1 b).1]; exact b⟩
theorem Held.create {u : List UInt8} (h : c.In) (k : c.Held s t l) (hne : s ≠ u) : (c.create u).Held s t l := by
  obtain ⟨i, a, b, d, e⟩ := k
  refine ⟨i, (Nm.get_put_other h.apart hne _).trans a, b, by rw [Co.create]; simp only; rw [List.getElem?_append_left (List.getElem?_eq_some_iff.1 d).1]; exact d, fun v hv => ?_⟩
  rcases List.mem_append.1 hv with hv | hv
  · exact e v hv
  · rw [List.mem_singleton.1 hv]
    exact ⟨hne.symm, fun h => by cases h⟩
theorem create_get {u : List UInt8} (h : c.In) (hne : s ≠ u) : (c.create u).names.get s = c.names.get s := Nm.get_put_other h.apart hne _

/- A file is set -/
theorem In.setFile (h : c.In) (i : Nat) (f : List UInt8 × Nat) : (c.setFile i f).In :=
  ⟨h.apart, h.lapart, by simpa [Co.setFile] using h.lead, by simpa [Co.setFile] using h.llead, h.inj, h.linj, h.nodup, by simpa [Co.setFile] using h.fresh, h.whole, h.tb⟩
theorem setFile_most (c : Co) (i : Nat) (f : List UInt8 × Nat) : (c.setFile i f).most = c.most := rfl
theorem sum_set (l : List Nat) (i x : Nat) (hi : i < l.length) : (l.set i x).sum + l[i] = l.sum + x := by
  induction l generalizing i with
  | nil => simp at hi
  | cons a r ih =>
    cases i with
    | zero => simp; omega
    | succ i =>
      have := ih i (by simpa using hi)
      simp only [List.set_cons_succ, List.sum_cons, List.getElem_cons_succ]
      omega
theorem setFile_total {i : Nat} {f g : List UInt8 × Nat} (hg : c.files[i]? = some g) : (c.setFile i f).total + g.1.length = c.total + f.1.length := by
  obtain ⟨hi, e⟩ := List.getElem?_eq_some_iff.1 hg
  unfold total Co.setFile
  simp only [List.map_set]
  have := sum_set (c.files.map fun f => f.1.length) i f.1.length (by simpa using hi)
  simpa [e] using this
/-- Of the name itself. -/
theorem Now.set {i : Nat} (hg : c.names.get s = some i) {f : List UInt8 × Nat} (hi : i < c.files.length) : (c.setFile i f).Now s f.1 f.2 := ⟨i, hg, by simp [Co.setFile, hi]⟩
theorem Now.other {u : List UInt8} {i : Nat} (h : c.In) (hg : c.names.get u = some i) (hne : s ≠ u) (k : c.Now s t l) (f : List UInt8 × Nat) : (c.setFile i f).Now s t l := by
  obtain ⟨j, a, b⟩ := k
  have hij : i ≠ j := fun e => hne (h.inj _ (Nm.get_mem a) _ (Nm.get_mem hg) (by simp [e]))
  exact ⟨j, a, by simp only [Co.setFile]; rw [List.getElem?_set_ne hij]; exact b⟩
theorem Held.other {u : List UInt8} {i : Nat} (h : c.In) (hg : c.names.get u = some i) (hne : s ≠ u) (k : c.Held s t l) (f : List UInt8 × Nat) : (c.setFile i f).Held s t l := by
  obtain ⟨j, a, a2, b, e⟩ := k
  have hij : i ≠ j := fun e => hne (h.inj _ (Nm.get_mem a) _ (Nm.get_mem hg) (by simp [e]))
  exact ⟨j, a, a2, by simp only [Co.setFile]; rw [List.getElem?_set_ne hij]; exact b, e⟩
theorem Held.set {i : Nat} (hg : c.names.get s = some i) (k : c.Held s t l) (f : List UInt8 × Nat) : (c.setFile i f).Held s f.1 f.2 := by
  obtain ⟨j, a, a2, b, e⟩ := k
  rw [a] at hg
  injection hg with hg
  subst hg
  obtain ⟨hi, _⟩ := List.getElem?_eq_some_iff.1 b
  exact ⟨j, a, a2, by simp [Co.setFile, hi], e⟩

/- Remove -/
theorem In.turn {u : Tn} (h : c.In) (hk : u.kind ≠ 1) (hub : u.b.length ≤ 16) : ({ c with names := u.go c.names, turns := c.turns ++ [u] } : Co).In := by
  have hm : made (c.turns ++ [u]) = made c.turns := by rw [made_append]; simp [made, hk]
  refine ⟨Sd.apart_go h.apart u, h.lapart, Sd.Leads.go h.lead u (fun e => absurd e hk), h.llead, go_inj h.inj (fun e => absurd e hk), h.linj, ?_, ?_, by simp only; rw [List.foldl_append, ← h.whole]; rfl, fun v hv => by
    rcases List.mem_append.1 hv with hv | hv
    · exact h.tb v hv
    · rw [List.mem_singleton.1 hv]; exact hub⟩
  · simp only; rw [hm]; exact h.nodup
  · simp only; rw [hm]; exact h.fresh
theorem In.remove (h : c.In) (s : List UInt8) : (c.remove s).In := h.turn (u := ⟨3, 0, s, []⟩) (by simp) (Nat.zero_le _)
theorem In.rename (h : c.In) (a b : List UInt8) (hb : b.length ≤ 16) : (c.rename a b).In := h.turn (u := ⟨2, 0, a, b⟩) (by simp) hb
theorem remove_most (c : Co) (s : List UInt8) : (c.remove s).most = c.most := by unfold most Co.remove; rw [made_append]; simp [made]
theorem rename_most (c : Co) (a b : List UInt8) : (c.rename a b).most = c.most := by unfold most Co.rename; rw [made_append]; simp [made]
theorem Now.remove {u : List UInt8} (h : c.In) (k : c.Now s t l) (hne : s ≠ u) : (c.remove u).Now s t l := by
  obtain ⟨i, a, b⟩ := k
  exact ⟨i, (go_get (u := ⟨3, 0, u, []⟩) h.apart ⟨hne.symm, fun e => by cases e⟩).trans a, b⟩
theorem Held.remove {u : List UInt8} (h : c.In) (k : c.Held s t l) (hne : s ≠ u) : (c.remove u).Held s t l := by
  obtain ⟨i, a, b, d, e⟩ := k
  refine ⟨i, (go_get (u := ⟨3, 0, u, []⟩) h.apart ⟨hne.symm, fun e => by cases e⟩).trans a, b, d, fun v hv => ?_⟩
  rcases List.mem_append.1 hv with hv | hv
  · exact e v hv
  · rw [List.mem_singleton.1 hv]
    exact ⟨hne.symm, fun h => by cases h⟩
theorem remove_get {u : List UInt8} (h : c.In) (hne : s ≠ u) : (c.remove u).names.get s = c.names.get s := go_get (u := ⟨3, 0, u, []⟩) h.apart ⟨hne.symm, fun e => by cases e⟩
theorem remove_gone (h : c.In) (s : List UInt8) : (c.remove s).names.get s = none := by
  unfold Co.remove Tn.go
  simp only [show ¬ (3 = 1) by decide, show ¬ (3 = 2) by decide, if_false, if_true]
  exact Nm.get_del_same _ _
theorem remove_mem {u : List UInt8} {p : List UInt8 × Nat} (hp : p ∈ (c.remove u).names) : p ∈ c.names ∧ p.1 ≠ u := by
  unfold Co.remove Tn.go at hp
  simp only [show ¬ (3 = 1) by decide, show ¬ (3 = 2) by decide, if_false, if_true] at hp
  exact Nm.mem_del.1 hp

/- Rename -/
theorem rename_names {a b : List UInt8} {i : Nat} (hg : c.names.get a = some i) : (c.rename a b).names = (c.names.put b i).del a := by
  unfold Co.rename Tn.go
  simp [hg]
theorem Now.moved {a b : List UInt8} (h : c.In) (k : c.Now a t l) (hne : a ≠ b) : (c.rename a b).Now b t l := by
  obtain ⟨i, g, d⟩ := k
  refine ⟨i, ?_, d⟩
  rw [rename_names g, Nm.get_del_other (Nm.apart_put h.apart _ _) hne.symm, Nm.get_put_same h.apart]
theorem Now.rename {a b : List UInt8} (h : c.In) (k : c.Now s t l) (ha : s ≠ a) (hb : s ≠ b) : (c.rename a b).Now s t l := by
  obtain ⟨i, g, d⟩ := k
  exact ⟨i, (go_get (u := ⟨2, 0, a, b⟩) h.apart ⟨ha.symm, fun _ => hb.symm⟩).trans g, d⟩
theorem Held.rename {a b : List UInt8} (h : c.In) (k : c.Held s t l) (ha : s ≠ a) (hb : s ≠ b) : (c.rename a b).Held s t l := by
  obtain ⟨i, g, g2, d, e⟩ := k
  refine ⟨i, (go_get (u := ⟨2, 0, a, b⟩) h.apart ⟨ha.symm, fun _ => hb.symm⟩).trans g, g2, d, fun v hv => ?_⟩
  rcases List.mem_append.1 hv with hv | hv
  · exact e v hv
  · rw [List.mem_singleton.1 hv]
    exact ⟨ha.symm, fun _ => hb.symm⟩
theorem rename_gone {a b : List UInt8} (h : c.In) {i : Nat} (hg : c.names.get a = some i) : (c.rename a b).names.get a = none := by
  rw [rename_names hg]
  exact Nm.get_del_same _ _

/- SyncDir -/
theorem In.syncDir (h : c.In) : c.syncDir.In := ⟨h.apart, h.apart, h.lead, h.lead, h.inj, h.inj, by simp [Co.syncDir, made], by simp [Co.syncDir, made], rfl, by simp [Co.syncDir]⟩
theorem Now.syncDir (k : c.Now s t l) : c.syncDir.Held s t l := by
  obtain ⟨i, g, d⟩ := k
  exact ⟨i, g, g, d, fun v hv => by simp [Co.syncDir] at hv⟩
theorem syncDir_most (c : Co) : c.syncDir.most = c.names.length := by simp [most, Co.syncDir, made]

/-- What a loss of power may leave. -/
structure Cr (c c' : Co) : Prop where
  quota : c'.quota = c.quota
  turns : c'.turns = []
  same : c'.lasted = c'.names
  names : ∃ us : List Tn, us.Sublist c.turns ∧ c'.names = us.foldl (fun m u => u.go m) c.lasted
  len : c'.files.length = c.files.length
  file : ∀ (i : Nat) (f : List UInt8 × Nat), c.files[i]? = some f → ∃ f' : List UInt8 × Nat, c'.files[i]? = some f' ∧ f'.1.length ≤ f.1.length ∧ ((∃ p ∈ c'.names, p.2 = i) → f.2 ≤ f.1.length → ∃ m, f.2 ≤ m ∧ m ≤ f.1.length ∧ f' = (f.1.take m, m))
theorem fold_get {us : List Tn} : ∀ {m : Nm}, Nm.Apart m → (∀ u ∈ us, off s u) → (us.foldl (fun m u => u.go m) m).get s = m.get s := by
  induction us with
  | nil => intro m _ _; rfl
  | cons u r ih =>
    intro m hm ho
    rw [List.foldl_cons, ih (Sd.apart_go hm u) (fun v hv => ho v (by simp [hv])), go_get hm (ho u (by simp))]
theorem fold_apart {us : List Tn} : ∀ {m : Nm}, Nm.Apart m → Nm.Apart (us.foldl (fun m u => u.go m) m) := by
  induction us with
  | nil => intro m h; exact h
  | cons u r ih => intro m h; exact ih (Sd.apart_go h u)
theorem fold_mem {us : List Tn} : ∀ {m : Nm} {p : List UInt8 × Nat}, p ∈ us.foldl (fun m u => u.go m) m → p.2 ∈ made us ∨ ∃ q ∈ m, q.2 = p.2 := by
  induction us with
  | nil => intro m p h; exact .inr ⟨p, h, rfl⟩
  | cons u r ih =>
    intro m p h
    rcases ih h with h1 | ⟨q, hq, e⟩
    · exact .inl (by rw [show u :: r = [u] ++ r from rfl, made_append]; exact List.mem_append_right _ h1)
    · rcases go_mem hq with ⟨h1, h2⟩ | ⟨q2, h1, h2⟩
      · refine .inl ?_
        rw [show u :: r = [u] ++ r from rfl, made_append]
        refine List.mem_append_left _ ?_
        rw [← e, h2]
        simp [made, h1]
      · exact .inr ⟨q2, h1, h2.trans e⟩
theorem fold_inj {us : List Tn} : ∀ {m : Nm}, (∀ p ∈ m, ∀ q ∈ m, p.2 = q.2 → p.1 = q.1) → (made us).Nodup → (∀ i ∈ made us, ∀ p ∈ m, p.2 ≠ i) → ∀ p ∈ us.foldl (fun m u => u.go m) m, ∀ q ∈ us.foldl (fun m u => u.go m) m, p.2 = q.2 → p.1 = q.1 := by
  induction us with
  | nil => intro m h _ _; exact h
  | cons u r ih =>
    intro m h hn hf
    rw [show u :: r = [u] ++ r from rfl, made_append] at hn hf
    obtain ⟨_, n2, n3⟩ := List.nodup_append.1 hn
    refine ih (go_inj h (fun hk p hp => hf u.file (List.mem_append_left _ (by simp [made, hk])) p hp)) n2 (fun i hi p hp e => ?_)
    rcases go_mem hp with ⟨h1, h2⟩ | ⟨q, h1, h2⟩
    · exact n3 u.file (by simp [made, h1]) i hi (by rw [← e, h2])
    · exact hf i (List.mem_append_right _ hi) q h1 (h2.trans e)
theorem fold_length {us : List Tn} : ∀ {m : Nm}, Nm.Apart m → (us.foldl (fun m u => u.go m) m).length ≤ m.length + (made us).length := by
  induction us with
  | nil => intro m _; simp [made]
  | cons u r ih =>
    intro m h
    have h1 := ih (Sd.apart_go h u)
    have h2 := go_length h u
    have h3 : (made (u :: r)).length = (if u.kind = 1 then 1 else 0) + (made r).length := by
      rw [show u :: r = [u] ++ r from rfl, made_append, List.length_append]
      congr 1
      unfold made
      split <;> simp [*]
    rw [List.foldl_cons, h3]
    omega
theorem made_sub {a b : List Tn} (h : a.Sublist b) : (made a).Sublist (made b) := (h.filter _).map _
variable {c' : Co}
theorem Cr.in_ (h : Cr c c') (hi : c.In) : c'.In := by
  obtain ⟨us, hs, hn⟩ := h.names
  have hm := made_sub hs
  have hap : Nm.Apart c'.names := by rw [hn]; exact fold_apart hi.lapart
  have hinj : ∀ p ∈ c'.names, ∀ q ∈ c'.names, p.2 = q.2 → p.1 = q.1 := by
    rw [hn]
    exact fold_inj hi.linj (hi.nodup.sublist hm) (fun i hx p hp => (hi.fresh i (hm.subset hx)).2 p hp)
  have hl : Sd.Leads c'.names c'.files.length := fun p hp => by
    rw [h.len]
    rw [hn] at hp
    rcases fold_mem hp with h1 | ⟨q, h1, h2⟩
    · exact (hi.fresh _ (hm.subset h1)).1
    · rw [← h2]; exact hi.llead q h1
  exact ⟨hap, by rw [h.same]; exact hap, hl, by rw [h.same]; exact hl, hinj, by rw [h.same]; exact hinj, by rw [h.turns]; simp [made], by rw [h.turns]; simp [made], by rw [h.turns, h.same]; rfl, by rw [h.turns]; simp⟩
theorem Cr.most_le (h : Cr c c') (hi : c.In) : c'.most ≤ c.most ∧ c'.names.length ≤ c.most := by
  obtain ⟨us, hs, hn⟩ := h.names
  have h1 := fold_length (us := us) hi.lapart
  rw [← hn] at h1
  have h2 := (made_sub hs).length_le
  unfold most
  rw [h.same, h.turns]
  simp [made] at *
  omega
theorem sum_le_sum : ∀ (a b : List (List UInt8 × Nat)), a.length = b.length → (∀ (i : Nat) (f : List UInt8 × Nat), b[i]? = some f → ∃ f' : List UInt8 × Nat, a[i]? = some f' ∧ f'.1.length ≤ f.1.length) → (a.map fun f => f.1.length).sum ≤ (b.map fun f => f.1.length).sum
  | [], [], _, _ => by simp
  | x :: a, y :: b, hl, h => by
    obtain ⟨f', e, hf⟩ := h 0 y rfl
    simp at e
    subst e
    have := sum_le_sum a b (by simpa using hl) (fun i f hi => by simpa using h (i + 1) f (by simpa using hi))
    simp only [List.map_cons, List.sum_cons]
    omega
theorem Cr.total_le (h : Cr c c') : c'.total ≤ c.total := sum_le_sum _ _ h.len (fun i f hf => by
  obtain ⟨f', a, b, _⟩ := h.file i f hf
  exact ⟨f', a, b⟩)
/-- A name that lasts is there, with all of its file that lasts. -/
theorem Cr.held (h : Cr c c') (hi : c.In) (k : c.Held s t l) (hl : l ≤ t.length) : ∃ m, l ≤ m ∧ m ≤ t.length ∧ c'.Held s (t.take m) m := by
  obtain ⟨us, hs, hn⟩ := h.names
  obtain ⟨i, a, b, d, e⟩ := k
  have hg : c'.names.get s = some i := by
    rw [hn, fold_get hi.lapart (fun u hu => e u (hs.subset hu))]
    exact b
  obtain ⟨f', f1, f2, f3⟩ := h.file i _ d
  obtain ⟨m, m1, m2, rfl⟩ := f3 ⟨_, Nm.get_mem hg, rfl⟩ hl
  exact ⟨m, m1, m2, i, hg, by rw [h.same]; exact hg, f1, by rw [h.turns]; simp⟩
/-- Behind a loss of power all that is there lasts. -/
theorem Cr.now (h : Cr c c') (k : c'.Now s t l) : c'.Held s t l := by
  obtain ⟨i, a, b⟩ := k
  exact ⟨i, a, by rw [h.same]; exact a, b, by rw [h.turns]; simp⟩
end Co
end Go.Proofs.YthepokgkfaocmaaGreatDoor

/-
  Each call of a disk as what it does to its bytes and to what may stop it; what is kept through calls.
-/
namespace Go.Proofs.YthepokgkfaocmaaGreatDoor
open Go Go.RowKit
/-- From one state to another by calls, the last of which ended by an error, if there is one. -/
def Ct.Ends (a b : Ct) (er : Nat) : Prop := Ct.Reach a b ∧ (er ≠ 0 → ∃ c, Ct.Reach a c ∧ er = c.call.2 ∧ b = c.call.1)
theorem Ct.Ends.one (a : Ct) : Ct.Ends a a.call.1 a.call.2 := ⟨Ct.Reach.one a, fun _ => ⟨a, Ct.Reach.refl a, rfl, rfl⟩⟩
theorem Ct.Ends.none {a b : Ct} (h : Ct.Reach a b) : Ct.Ends a b 0 := ⟨h, fun e => absurd rfl e⟩
theorem Ct.Ends.after {a b c : Ct} {er : Nat} (h : Ct.Reach a b) (k : Ct.Ends b c er) : Ct.Ends a c er :=
  ⟨h.trans k.1, fun e => let ⟨x, h1, h2, h3⟩ := k.2 e; ⟨x, h.trans h1, h2, h3⟩⟩

namespace Sd
variable {d : Sd} {s b : List UInt8} {i : Nat} {f : List UInt8 × Nat}
theorem call_ct (d : Sd) {l : List (List UInt8)} (hl : l.all named = true) : (d.call l).1.co = d.co ∧ (d.call l).1.ct = d.ct.call.1 ∧ (d.call l).2 = d.ct.call.2 := by
  unfold call Ct.call
  rw [if_neg (by simp [hl])]
  simp only [Sd.ct]
  by_cases h1 : d.dead = true
  · simp [h1, Sd.co]
  · simp only [h1]
    by_cases h2 : 0 < d.stop <;> by_cases h3 : 0 < d.fail <;> by_cases h4 : d.fail - 1 = 0 <;> simp [h2, h3, h4, Sd.co] <;> rfl
theorem create_ct (hs : named s = true) (hg : d.names.get s = none) (hn : d.names.length < 64) : (d.create s).2 = d.ct.call.2 ∧ (d.create s).1.ct = d.ct.call.1 ∧ (d.create s).1.co = if d.ct.call.2 = 0 then d.co.create s else d.co := by
  obtain ⟨c1, c2, c3⟩ := d.call_ct (l := [s]) (by simpa using hs)
  unfold create
  rw [← c3]
  by_cases h : (d.call [s]).2 = 0
  · rw [if_neg (by simp [h]), if_neg (by simp [hg]), if_neg (by omega), if_pos h]
    refine ⟨h.symm, c2, ?_⟩
    have := congrArg Co.quota c1
    have t2 := congrArg Co.lasted c1
    have t3 := congrArg Co.turns c1
    simp only [co] at this t2 t3
    simp [co, Co.create, this, t2]
  · rw [if_pos h, if_neg h]
    exact ⟨rfl, c2, c1⟩
theorem setf_co (e : (d.call [s]).1.co = d.co) : ({ (d.call [s]).1 with files := d.files.set i f } : Sd).co = d.co.setFile i f := by
  have t1 := congrArg Co.quota e
  have t2 := congrArg Co.lasted e
  have t3 := congrArg Co.turns e
  have t4 := congrArg Co.names e
  simp only [co] at t1 t2 t3 t4
  simp [co, Co.setFile, t1, t2, t3, t4]
theorem append_ct (hs : named s = true) (hg : d.names.get s = some i) (hf : d.files[i]? = some f) (h1 : f.1.length + b.length ≤ 250000) (h2 : d.used + b.length ≤ d.quota) : (d.append s b).2 = d.ct.call.2 ∧ (d.append s b).1.ct = d.ct.call.1 ∧ (d.append s b).1.co = if d.ct.call.2 = 0 then d.co.setFile i (f.1 ++ b, f.2) else d.co := by
  obtain ⟨c1, c2, c3⟩ := d.call_ct (l := [s]) (by simpa using hs)
  have hgd : d.files.getD i ([], 0) = f := by rw [List.getD_eq_getElem?_getD, hf]; rfl
  unfold append
  rw [← c3]
  by_cases h : (d.call [s]).2 = 0
  · rw [if_neg (by simp [h]), if_pos h, hg]
    simp only [size, hgd]
    rw [if_neg (by omega), if_neg (by omega)]
    exact ⟨h.symm, c2, setf_co c1⟩
  · rw [if_pos h, if_neg h]
    exact ⟨rfl, c2, c1⟩
theorem sync_ct (hs : named s = true) (hg : d.names.get s = some i) (hf : d.files[i]? = some f) : (d.sync s).2 = d.ct.call.2 ∧ (d.sync s).1.ct = d.ct.call.1 ∧ (d.sync s).1.co = if d.ct.call.2 = 0 then d.co.setFile i (f.1, f.1.length) else d.co := by
  obtain ⟨c1, c2, c3⟩ := d.call_ct (l := [s]) (by simpa using hs)
  have hgd : d.files.getD i ([], 0) = f := by rw [List.getD_eq_getElem?_getD, hf]; rfl
  unfold sync
  rw [← c3]
  by_cases h : (d.call [s]).2 = 0
  · rw [if_neg (by simp [h]), if_pos h, hg]
    simp only [size, hgd]
    exact ⟨h.symm, c2, setf_co c1⟩
  · rw [if_pos h, if_neg h]
    exact ⟨rfl, c2, c1⟩
theorem remove_ct (hs : named s = true) (hg : d.names.get s = some i) : (d.remove s).2 = d.ct.call.2 ∧ (d.remove s).1.ct = d.ct.call.1 ∧ (d.remove s).1.co = if d.ct.call.2 = 0 then d.co.remove s else d.co := by
  obtain ⟨c1, c2, c3⟩ := d.call_ct (l := [s]) (by simpa using hs)
  unfold remove
  rw [← c3]
  by_cases h : (d.call [s]).2 = 0
  · rw [if_neg (by simp [h]), if_neg (by simp [hg]), if_pos h]
    refine ⟨h.symm, c2, ?_⟩
    have t1 := congrArg Co.quota c1
    have t2 := congrArg Co.lasted c1
    have t3 := congrArg Co.files c1
    simp only [co] at t1 t2 t3
    simp [co, Co.remove, t1, t2, t3]
  · rw [if_pos h, if_neg h]
    exact ⟨rfl, c2, c1⟩
theorem rename_ct {a : List UInt8} (ha : named a = true) (hb : named b = true) (hne : a ≠ b) (hg : d.names.get a = some i) : (d.rename a b).2 = d.ct.call.2 ∧ (d.rename a b).1.ct = d.ct.call.1 ∧ (d.rename a b).1.co = if d.ct.call.2 = 0 then d.co.rename a b else d.co := by
  obtain ⟨c1, c2, c3⟩ := d.call_ct (l := [a, b]) (by simp [ha, hb])
  unfold rename
  rw [← c3]
  by_cases h : (d.call [a, b]).2 = 0
  · rw [if_neg (by simp [h]), if_neg (by simp [hg]), if_neg hne, if_pos h]
    refine ⟨h.symm, c2, ?_⟩
    have t1 := congrArg Co.quota c1
    have t2 := congrArg Co.lasted c1
    have t3 := congrArg Co.files c1
    simp only [co] at t1 t2 t3
    simp [co, Co.rename, t1, t2, t3]
  · rw [if_pos h, if_neg h]
    exact ⟨rfl, c2, c1⟩
theorem syncDir_ct : (d.syncDir).2 = d.ct.call.2 ∧ (d.syncDir).1.ct = d.ct.call.1 ∧ (d.syncDir).1.co = if d.ct.call.2 = 0 then d.co.syncDir else d.co := by
  obtain ⟨c1, c2, c3⟩ := d.call_ct (l := []) rfl
  unfold syncDir
  rw [← c3]
  by_cases h : (d.call []).2 = 0
  · rw [if_neg (by simp [h]), if_pos h]
    refine ⟨h.symm, c2, ?_⟩
    have t1 := congrArg Co.quota c1
    have t2 := congrArg Co.names c1
    have t3 := congrArg Co.files c1
    simp only [co] at t1 t2 t3
    simp [co, Co.syncDir, t1, t2, t3]
  · rw [if_pos h, if_neg h]
    exact ⟨rfl, c2, c1⟩
theorem sum_lt_range (g : Nat → Nat) : ∀ (n : Nat) (l : List Nat), l.Nodup → (∀ x ∈ l, x < n) → (l.map g).sum ≤ ((List.range n).map g).sum := by
  intro n
  induction n with
  | zero =>
    intro l _ h
    cases l with
    | nil => simp
    | cons a r => have := h a (by simp); omega
  | succ n ih =>
    intro l hn h
    rw [List.range_succ, List.map_append, List.sum_append]
    simp only [List.map_cons, List.map_nil, List.sum_cons, List.sum_nil]
    by_cases hm : n ∈ l
    · have hp := List.perm_cons_erase hm
      have e := (hp.map g).sum_nat
      have := ih (l.erase n) (hn.erase n) (fun x hx => by
        have h1 := h x (List.mem_of_mem_erase hx)
        have h2 : x ≠ n := fun e => by subst e; exact hn.not_mem_erase hx
        omega)
      rw [e]
      simp only [List.map_cons, List.sum_cons]
      omega
    · have := ih l hn (fun x hx => by
        have h1 := h x hx
        have h2 : x ≠ n := fun e => hm (by rw [← e]; exact hx)
        omega)
      omega
theorem used_total (h : d.co.In) : d.used ≤ d.co.total := by
  have hn : (d.names.map (·.2)).Nodup := by
    have h1 := h.apart
    have h2 := h.inj
    simp only [co] at h1 h2
    unfold Nm.Apart at h1
    rw [List.nodup_iff_pairwise_ne, List.pairwise_map]
    refine h1.imp_of_mem (fun {a b} ha hb hab e => hab (h2 a ha b hb e))
  have hl : ∀ x ∈ d.names.map (·.2), x < d.files.length := fun x hx => by
    obtain ⟨p, hp, rfl⟩ := List.mem_map.1 hx
    exact h.lead p hp
  have := sum_lt_range d.size d.files.length (d.names.map (·.2)) hn hl
  have e1 : (d.names.map (·.2)).map d.size = d.names.map fun p => d.size p.2 := by simp
  have e2 : (List.range d.files.length).map d.size = d.files.map fun f => f.1.length := by
    refine List.ext_getElem (by simp) fun i h1 h2 => ?_
    simp only [List.length_map, List.length_range] at h1
    simp [size, List.getD_eq_getElem?_getD, h1]
  rw [e1, e2] at this
  exact this
end Sd

namespace Co
/-- A name that is there, or was, or may be. -/
def Known (c : Co) (s : List UInt8) : Prop := (∃ p ∈ c.names, p.1 = s) ∨ (∃ p ∈ c.lasted, p.1 = s) ∨ ∃ u ∈ c.turns, u.a = s ∨ u.b = s
/-- What calls on names of N keep: all else; so many names more at most, so many bytes more. -/
structure Keeps (N : List UInt8 → Prop) (K : List (List UInt8)) (c c' : Co) (k n : Nat) : Prop where
  in_ : c'.In
  quota : c'.quota = c.quota
  most : c'.most ≤ c.most + k
  total : c'.total ≤ c.total + n
  held : ∀ u, ¬ N u → ∀ t l, c.Held u t l → c'.Held u t l
  now : ∀ u, ¬ N u → ∀ t l, c.Now u t l → c'.Now u t l
  gone : ∀ u, ¬ N u → c.names.get u = none → c'.names.get u = none
  known : ∀ u, c'.Known u → c.Known u ∨ u ∈ K ∨ u = []
variable {c c1 c2 : Co} {N M : List UInt8 → Prop} {K L : List (List UInt8)} {k k1 n n1 : Nat} {s b t : List UInt8} {l : Nat}
theorem Keeps.refl (h : c.In) (N : List UInt8 → Prop) (K : List (List UInt8)) : Keeps N K c c 0 0 := ⟨h, rfl, Nat.le_refl _, Nat.le_refl _, fun _ _ _ _ h => h, fun _ _ _ _ h => h, fun _ _ h => h, fun _ h => .inl h⟩
theorem Keeps.trans (h : Keeps N K c c1 k n) (g : Keeps N K c1 c2 k1 n1) : Keeps N K c c2 (k + k1) (n + n1) :=
  ⟨g.in_, g.quota.trans h.quota, by have := h.most; have := g.most; omega, by have := h.total; have := g.total; omega, fun u hu t l a => g.held u hu t l (h.held u hu t l a), fun u hu t l a => g.now u hu t l (h.now u hu t l a), fun u hu a => g.gone u hu (h.gone u hu a), fun u a => by
    rcases g.known u a with a | a | a
    · exact h.known u a
    · exact .inr (.inl a)
    · exact .inr (.inr a)⟩
theorem Keeps.mono (h : Keeps N K c c1 k n) (hN : ∀ s, N s → M s) (hK : ∀ s ∈ K, s ∈ L) (hk : k ≤ k1) (hn : n ≤ n1) : Keeps M L c c1 k1 n1 :=
  ⟨h.in_, h.quota, by have := h.most; omega, by have := h.total; omega, fun u hu => h.held u (fun a => hu (hN u a)), fun u hu => h.now u (fun a => hu (hN u a)), fun u hu => h.gone u (fun a => hu (hN u a)), fun u a => by
    rcases h.known u a with a | a | a
    · exact .inl a
    · exact .inr (.inl (hK u a))
    · exact .inr (.inr a)⟩
theorem length_most (h : c.In) : c.names.length ≤ c.most := by
  have := fold_length (us := c.turns) h.lapart
  rw [← h.whole] at this
  exact this
theorem keeps_create (h : c.In) (hg : c.names.get s = none) : Keeps (· = s) [s] c (c.create s) 1 0 :=
  ⟨h.create hg, rfl, Nat.le_of_eq (create_most c s), Nat.le_of_eq (create_total c s), fun u hu t l a => a.create h hu, fun u hu t l a => a.create h hu, fun u hu a => (create_get h hu).trans a, fun u hu => by
    rcases hu with ⟨p, hp, rfl⟩ | ⟨p, hp, rfl⟩ | ⟨v, hv, e⟩
    · rcases Nm.mem_put.1 hp with rfl | ⟨hp, _⟩
      · exact .inr (.inl (by simp))
      · exact .inl (.inl ⟨p, hp, rfl⟩)
    · exact .inl (.inr (.inl ⟨p, hp, rfl⟩))
    · rcases List.mem_append.1 hv with hv | hv
      · exact .inl (.inr (.inr ⟨v, hv, e⟩))
      · rw [List.mem_singleton.1 hv] at e
        rcases e with rfl | rfl
        · exact .inr (.inl (by simp))
        · exact .inr (.inr rfl)⟩
theorem keeps_set {i : Nat} {f g : List UInt8 × Nat} (h : c.In) (hg : c.names.get s = some i) (hf : c.files[i]? = some f) : Keeps (· = s) [] c (c.setFile i g) 0 (g.1.length - f.1.length) :=
  ⟨h.setFile i g, rfl, Nat.le_refl _, by have := setFile_total (f := g) hf; omega, fun u hu t l a => a.other h hg hu g, fun u hu t l a => a.other h hg hu g, fun u hu a => a, fun u hu => .inl hu⟩
theorem keeps_remove {i : Nat} (h : c.In) (hg : c.names.get s = some i) : Keeps (· = s) [] c (c.remove s) 0 0 :=
  ⟨h.remove s, rfl, Nat.le_of_eq (remove_most c s), Nat.le_refl _, fun u hu t l a => a.remove h hu, fun u hu t l a => a.remove h hu, fun u hu a => (remove_get h hu).trans a, fun u hu => by
    rcases hu with ⟨p, hp, rfl⟩ | ⟨p, hp, rfl⟩ | ⟨v, hv, e⟩
    · exact .inl (.inl ⟨p, (remove_mem hp).1, rfl⟩)
    · exact .inl (.inr (.inl ⟨p, hp, rfl⟩))
    · rcases List.mem_append.1 hv with hv | hv
      · exact .inl (.inr (.inr ⟨v, hv, e⟩))
      · rw [List.mem_singleton.1 hv] at e
        rcases e with rfl | rfl
        · exact .inl (.inl ⟨_, Nm.get_mem hg, rfl⟩)
        · exact .inr (.inr rfl)⟩
theorem keeps_rename {a : List UInt8} {i : Nat} (h : c.In) (hb16 : b.length ≤ 16) (hg : c.names.get a = some i) : Keeps (fun u => u = a ∨ u = b) [a, b] c (c.rename a b) 0 0 :=
  ⟨h.rename a b hb16, rfl, Nat.le_of_eq (rename_most c a b), Nat.le_refl _, fun u hu t l k => k.rename h (fun e => hu (.inl e)) (fun e => hu (.inr e)), fun u hu t l k => k.rename h (fun e => hu (.inl e)) (fun e => hu (.inr e)), fun u hu k => by
    have ha : u ≠ a := fun e => hu (.inl e)
    have hb : u ≠ b := fun e => hu (.inr e)
    exact (go_get (u := ⟨2, 0, a, b⟩) h.apart ⟨ha.symm, fun _ => hb.symm⟩).trans k, fun u hu => by
    rcases hu with ⟨p, hp, rfl⟩ | ⟨p, hp, rfl⟩ | ⟨v, hv, e⟩
    · rw [rename_names hg] at hp
      obtain ⟨hp, _⟩ := Nm.mem_del.1 hp
      rcases Nm.mem_put.1 hp with rfl | ⟨hp, _⟩
      · exact .inr (.inl (by simp))
      · exact .inl (.inl ⟨p, hp, rfl⟩)
    · exact .inl (.inr (.inl ⟨p, hp, rfl⟩))
    · rcases List.mem_append.1 hv with hv | hv
      · exact .inl (.inr (.inr ⟨v, hv, e⟩))
      · rw [List.mem_singleton.1 hv] at e
        rcases e with rfl | rfl <;> exact .inr (.inl (by simp))⟩
theorem keeps_syncDir (h : c.In) : Keeps (fun _ => False) [] c c.syncDir 0 0 :=
  ⟨h.syncDir, rfl, by rw [syncDir_most]; exact length_most h, Nat.le_refl _, fun u _ t l a => Co.Now.syncDir (Co.Held.now a), fun u _ t l a => Co.Held.now (Co.Now.syncDir a), fun u _ a => a, fun u hu => by
    rcases hu with ⟨p, hp, rfl⟩ | ⟨p, hp, rfl⟩ | ⟨v, hv, e⟩
    · exact .inl (.inl ⟨p, hp, rfl⟩)
    · exact .inl (.inl ⟨p, hp, rfl⟩)
    · simp [syncDir] at hv⟩
theorem Cr.known {c' : Co} (h : Cr c c') {u : List UInt8} (hu : c'.Known u) : c.Known u := by
  obtain ⟨us, hs, hn⟩ := h.names
  have key : ∀ (vs : List Tn) (m : Nm) (p : List UInt8 × Nat), p ∈ vs.foldl (fun m u => u.go m) m → (∃ q ∈ m, q.1 = p.1) ∨ ∃ v ∈ vs, v.a = p.1 ∨ v.b = p.1 := by
    intro vs
    induction vs with
    | nil => intro m p hp; exact .inl ⟨p, hp, rfl⟩
    | cons v r ih =>
      intro m p hp
      rcases ih _ p hp with ⟨q, hq, e⟩ | ⟨x, hx, e⟩
      · change q ∈ v.go m at hq
        unfold Tn.go at hq
        split at hq
        · rcases Nm.mem_put.1 hq with rfl | ⟨hq, _⟩
          · exact .inr ⟨v, by simp, .inl e⟩
          · exact .inl ⟨q, hq, e⟩
        · split at hq
          · split at hq
            · obtain ⟨hq, _⟩ := Nm.mem_del.1 hq
              rcases Nm.mem_put.1 hq with rfl | ⟨hq, _⟩
              · exact .inr ⟨v, by simp, .inr e⟩
              · exact .inl ⟨q, hq, e⟩
            · exact .inl ⟨q, hq, e⟩
          · split at hq
            · exact .inl ⟨q, (Nm.mem_del.1 hq).1, e⟩
            · exact .inl ⟨q, hq, e⟩
      · exact .inr ⟨x, by simp [hx], e⟩
  have h1 : ∀ p ∈ c'.names, c.Known p.1 := fun p hp => by
    rw [hn] at hp
    rcases key _ _ p hp with a | ⟨v, hv, e⟩
    · exact .inr (.inl a)
    · exact .inr (.inr ⟨v, hs.subset hv, e⟩)
  rcases hu with ⟨p, hp, rfl⟩ | ⟨p, hp, rfl⟩ | ⟨v, hv, e⟩
  · exact h1 p hp
  · rw [h.same] at hp; exact h1 p hp
  · rw [h.turns] at hv; cases hv
end Co
end Go.Proofs.YthepokgkfaocmaaGreatDoor
