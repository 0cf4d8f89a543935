/- Texts HosP, HosM, OwnSet in one. No conditions. -/
import Derived.Test.YthepokgkfaocmaaGreatDoorBunAQ
import Derived.Test.YthepokgkfaocmaaGreatDoorBunAI
import Derived.Test.YthepokgkfaocmaaGreatDoorBunAC

/-
  ManHostile in plain Lean: what Open tells of a disk whose manifest, or current, holds any text.
-/
namespace Go.Proofs.YthepokgkfaocmaaGreatDoor
open Go Go.RowKit

namespace Crc
theorem add_inj {r s : BitVec 32} {l : List UInt8} (h : add r l = add s l) : r = s := by
  have e := add_reg s (r ^^^ s) l
  rw [← BitVec.xor_assoc, BitVec.xor_comm s r, BitVec.xor_assoc, BitVec.xor_self, BitVec.xor_zero, h] at e
  have e2 : steps (8 * l.length) (r ^^^ s) = 0#32 := by
    have e3 := congrArg (add s l ^^^ ·) e
    simp only [BitVec.xor_self] at e3
    rw [← BitVec.xor_assoc, BitVec.xor_self, BitVec.zero_xor] at e3
    exact e3.symm
  exact xor_eq_zero (steps_null e2)
theorem byte_inj {s : BitVec 32} {c d : UInt8} (h : byte s c = byte s d) : c = d := by
  have e := steps_inj h
  have e2 : BitVec.ofNat 32 c.toNat = BitVec.ofNat 32 d.toNat := by
    have e3 := congrArg (s ^^^ ·) e
    simp only [← BitVec.xor_assoc, BitVec.xor_self, BitVec.zero_xor] at e3
    exact e3
  have e3 := congrArg BitVec.toNat e2
  rw [BitVec.toNat_ofNat, BitVec.toNat_ofNat] at e3
  have h1 := UInt8.toNat_lt c
  have h2 := UInt8.toNat_lt d
  exact UInt8.toNat_inj.1 (by omega)
/-- One byte of sealed bytes that is another is seen. -/
theorem set_bad (l : List UInt8) (i : Nat) (c : UInt8) (hi : i < (sealed l).length) (hc : c ≠ (sealed l)[i]) : sealed (((sealed l).set i c).take l.length) ≠ (sealed l).set i c := by
  have hlen : ((sealed l).set i c).length = l.length + 4 := by rw [List.length_set, sealed_length]
  intro h
  have h2 := (good_iff ((sealed l).set i c) (by omega)).1 (by rw [hlen, show l.length + 4 - 4 = l.length from rfl]; exact h)
  have h3 : (sealed l).set i c = (sealed l).take i ++ (c :: (sealed l).drop (i + 1)) := by
    rw [List.set_eq_take_append_cons_drop, if_pos hi]
  have h4 : sealed l = (sealed l).take i ++ ((sealed l)[i] :: (sealed l).drop (i + 1)) := by
    rw [← List.drop_eq_getElem_cons hi, List.take_append_drop]
  have h5 : add ones (sealed l) = rest := add_sealed l
  rw [h4, add_append] at h5
  rw [h3, add_append] at h2
  have h6 := h2.trans h5.symm
  simp only [add] at h6
  exact hc (byte_inj (add_inj h6))
end Crc

namespace Fr
/-- A record of which one byte is another, or that was cut, is not the record. -/
theorem take_turned (k : Nat) (b : List UInt8) (h1 : 1 ≤ k) (h2 : k ≤ 100) (hb : b.length ≤ 60000) (i : Nat) (c : UInt8) (m : Nat) (hne : ((put k b).set i c).take m ≠ put k b) : (take (((put k b).set i c).take m) 0).2.2.2 ≠ 0 := by
  have hpl := put_length k b
  by_cases hset : (put k b).set i c = put k b
  · rw [hset] at hne ⊢
    have hm : m < (put k b).length := by
      refine Nat.lt_of_not_le fun h => hne (List.take_of_length_le h)
    have := take_cut [] k b m h1 h2 hb hm
    simp only [List.nil_append, List.length_nil] at this
    rw [this]
    simp
  · have hi : i < (put k b).length := Nat.lt_of_not_le fun h => hset (List.set_eq_of_length_le h)
    have hc : c ≠ (put k b)[i] := fun h => hset (by rw [h]; exact List.set_getElem_self hi)
    have hh4 : (head k b.length).length = 4 := rfl
    have hs8 : (Crc.sealed (head k b.length)).length = 8 := by rw [sealed_len, hh4]
    generalize hT : ((put k b).set i c).take m = T
    have hTl : T.length ≤ m ∧ T.length ≤ b.length + 12 := by
      rw [← hT, List.length_take, List.length_set, hpl]
      omega
    unfold take
    rw [Nat.sub_zero, List.drop_zero]
    by_cases h8 : T.length < 8
    · rw [if_pos h8]; simp
    rw [if_neg h8]
    have hm8 : 8 ≤ m := by omega
    rcases Nat.lt_or_ge i 8 with hi8 | hi8
    · have e8 : T.take 8 = (Crc.sealed (head k b.length)).set i c := by
        rw [← hT, List.take_take, Nat.min_eq_left hm8, put, List.set_append, if_pos (by omega), List.take_append_of_le_length (by rw [List.length_set]; omega), List.take_of_length_le (by rw [List.length_set]; omega)]
      have e4 : T.take 4 = ((Crc.sealed (head k b.length)).set i c).take 4 := by
        rw [← e8, List.take_take]
        rfl
      have hget : (put k b)[i] = (Crc.sealed (head k b.length))[i]'(by omega) := by
        simp only [put]
        rw [List.getElem_append_left (by omega)]
      have hbad := Crc.set_bad (head k b.length) i c (by omega) (by rw [← hget]; exact hc)
      rw [hh4] at hbad
      rw [if_pos (by rw [e8, e4]; exact hbad)]
      simp
    · have e8 : T.take 8 = Crc.sealed (head k b.length) := by
        rw [← hT, List.take_take, Nat.min_eq_left hm8, put, List.set_append, if_neg (by omega), List.take_append_of_le_length (by omega), List.take_of_length_le (by omega)]
      have e4 : T.take 4 = head k b.length := by
        have : T.take 4 = (T.take 8).take 4 := by rw [List.take_take]; rfl
        rw [this, e8, Crc.sealed, ← hh4, List.take_left]
      obtain ⟨e0, e1⟩ := head_parts k b.length (T.drop 4) (by omega) hb
      have e5 : head k b.length ++ T.drop 4 = T := by rw [← e4]; exact List.take_append_drop 4 _
      rw [e5] at e0 e1
      rw [e0, e1, e4, e8, if_neg (fun h => h rfl), if_neg (by omega)]
      by_cases hl : T.length - 8 < b.length + 4
      · rw [if_pos hl]; simp
      rw [if_neg hl]
      have hm2 : b.length + 12 ≤ m := by omega
      have ed : T.drop (0 + 8) = (Crc.sealed b).set (i - 8) c := by
        rw [← hT, List.take_of_length_le (by rw [List.length_set, hpl]; omega), put, List.set_append, if_neg (by omega), Nat.zero_add, ← hs8, List.drop_left]
      have hget : (put k b)[i] = (Crc.sealed b)[i - 8]'(by rw [sealed_len]; omega) := by
        simp only [put]
        rw [List.getElem_append_right (by omega)]
        simp only [hs8]
      have hsl : ((Crc.sealed b).set (i - 8) c).length = b.length + 4 := by rw [List.length_set, sealed_len]
      rw [ed, List.take_of_length_le (Nat.le_of_eq hsl), if_pos (Crc.set_bad _ _ _ (by rw [sealed_len]; omega) (by rw [← hget]; exact hc))]
      simp
end Fr

/-- One file is taken away. -/
theorem gone_rest {S : Sd} {t : List UInt8} {cur : Bool} (h : Calm S) (hr : cont S = Mw.rest 1 t) (nm : List UInt8) (hnm : nm = if cur = true then Mw.kCur else Mw.man 1) :
    (S.read nm) = (if cur = true then Mw.headB 1 else t, 0) ∧ (S.remove nm).2 = 0 ∧ Calm (S.remove nm).1 ∧ cont (S.remove nm).1 = upd (Mw.rest 1 t) nm none ∧ (S.remove nm).1.quota = S.quota ∧ Sd.named nm = true := by
  have hn : Sd.named nm = true := by
    rw [hnm]
    split
    · exact Mw.cur_named
    · exact Mw.man_named (Nat.le_refl 1) (by decide)
  have hct : cont S nm = some (if cur = true then Mw.headB 1 else t) := by
    rw [hr, hnm, Mw.rest]
    cases cur
    · simp
    · simp only [if_true]
      rw [if_neg (Mw.man_cur (n := 1) (Nat.le_refl 1) (by decide)).symm]
      rfl
  obtain ⟨a1, a2, a3, a4⟩ := h.remove hn hct
  exact ⟨h.read hn hct, a1, a2, by rw [a3, hr], a4, hn⟩
/-- It is written anew with any bytes. -/
theorem back_rest {S : Sd} {t : List UInt8} {B : Nat} {nm : List UInt8} (h : Calm S) (hr : cont S = upd (Mw.rest 1 t) nm none) (hn : Sd.named nm = true) (ht : t.length ≤ B) (b : List UInt8) (hb : b.length ≤ B) (hB : 2100 ≤ B) (hB2 : B ≤ 200000) (hq : 5 * B ≤ S.quota) :
    (S.create nm).2 = 0 ∧ ((S.create nm).1.append nm b).2 = 0 ∧ Calm ((S.create nm).1.append nm b).1 ∧ cont ((S.create nm).1.append nm b).1 = upd (Mw.rest 1 t) nm (some b) ∧ ((S.create nm).1.append nm b).1.quota = S.quota := by
  have hsm : ∀ f : List UInt8 → Option (List UInt8), (∀ s x, f s = some x → (s = Mw.man 1 ∨ s = Mw.kCur ∨ s = nm) ∧ x.length ≤ B) → ∀ d : Sd, cont d = f → Small d [Mw.man 1, Mw.kCur, nm] B := fun f hf d hd => ⟨fun s x hx => by
    rw [hd] at hx
    rcases (hf s x hx).1 with rfl | rfl | rfl <;> simp, fun s x hx => by
    rw [hd] at hx
    exact (hf s x hx).2⟩
  have e3 : ∀ s x, cont S s = some x → (s = Mw.man 1 ∨ s = Mw.kCur ∨ s = nm) ∧ x.length ≤ B := fun s x hx => by
    rw [hr] at hx
    unfold upd Mw.rest at hx
    split at hx
    · cases hx
    · split at hx
      · injection hx with hx; subst hx; exact ⟨.inl ‹_›, ht⟩
      · split at hx
        · injection hx with hx; subst hx; exact ⟨.inr (.inl ‹_›), by have := headB_len 1; exact Nat.le_trans this (by omega)⟩
        · cases hx
  obtain ⟨l1, l2⟩ := h.length_names (hsm _ e3 S rfl)
  simp only [List.length_cons, List.length_nil] at l1 l2
  obtain ⟨b1, b2, b3, b4⟩ := h.create hn (by rw [hr, upd, if_pos rfl]) (by omega)
  have e4 : ∀ s x, cont (S.create nm).1 s = some x → (s = Mw.man 1 ∨ s = Mw.kCur ∨ s = nm) ∧ x.length ≤ B := fun s x hx => by
    rw [b3] at hx
    unfold upd at hx
    split at hx
    · injection hx with hx; subst hx; exact ⟨.inr (.inr ‹_›), Nat.zero_le _⟩
    · exact e3 s x hx
  generalize S.create nm = P2 at *
  obtain ⟨S2, r2⟩ := P2
  simp only at b1 b2 b3 b4 e4 ⊢
  obtain ⟨m1, m2⟩ := b2.length_names (hsm _ e4 S2 rfl)
  simp only [List.length_cons, List.length_nil] at m1 m2
  obtain ⟨c1, c2, c3, c4⟩ := b2.append hn (x := []) (by rw [b3, upd, if_pos rfl]) b (by simp; omega) (by rw [b4]; omega)
  refine ⟨b1, c1, c2, ?_, by rw [c4, b4]⟩
  rw [c3, b3, hr]
  funext s
  unfold upd
  split <;> rfl
/-- What the law asks of Open. -/
def HosOk (R : Option Gs × Sd × Nat) : Prop := match R with
  | (none, _, er) => er = 9
  | (some M, _, er) => er = 0 ∧ M.v.ok = true
theorem opens_gone {S : Sd} {t : List UInt8} (h : Calm S) (hr : cont S = upd (Mw.rest 1 t) Mw.kCur none) : Gw.opens S = (none, S, 11) := by
  have h1 := h.read_none Mw.cur_named (by rw [hr, upd, if_pos rfl])
  unfold Gw.opens Gw.look
  rw [if_pos (by rw [h1]; decide), h1]
theorem opens_bad {S : Sd} {t b : List UInt8} (h : Calm S) (hr : cont S = upd (Mw.rest 1 t) Mw.kCur (some b)) (hb : (Fr.take b 0).2.2.2 ≠ 0) : Gw.opens S = (none, S, 9) := by
  have h1 := h.read Mw.cur_named (x := b) (by rw [hr, upd, if_pos rfl])
  unfold Gw.opens Gw.look
  rw [h1, if_neg (by simp), Gw.lookC, if_pos (.inl hb)]
theorem look_head {S : Sd} (h1 : S.read Mw.kCur = (Mw.headB 1, 0)) : Gw.look S = Gw.lookT S 1 := by
  have e2 : Mw.headB 1 = Fr.put 8 (Pn.put 1) := rfl
  have e1 := Fr.take_put [] 8 (Pn.put 1) [] (by omega) (by omega) (by have := Pn.put_len 1; omega)
  simp only [List.nil_append, List.append_nil, List.length_nil, Nat.zero_add] at e1
  rw [← e2] at e1
  have e3 := Pn.take_put 1 [] (by decide)
  rw [List.append_nil] at e3
  unfold Gw.look
  rw [h1, if_neg (by simp)]
  unfold Gw.lookC
  rw [e1, if_neg (by simp)]
  unfold Gw.lookN
  rw [e3, if_neg (by simp)]
theorem opens_none {S : Sd} {t : List UInt8} (h : Calm S) (hr : cont S = upd (Mw.rest 1 t) (Mw.man 1) none) : Gw.opens S = (none, S, 9) := by
  have h1 := h.read Mw.cur_named (x := Mw.headB 1) (by rw [hr, upd, if_neg (Mw.man_cur (n := 1) (Nat.le_refl 1) (by decide)).symm, Mw.rest, if_neg (Mw.man_cur (n := 1) (Nat.le_refl 1) (by decide)).symm, if_pos rfl]; rfl)
  have h2 := h.read_none (Mw.man_named (n := 1) (Nat.le_refl 1) (by decide)) (by rw [hr, upd, if_pos rfl])
  unfold Gw.opens
  rw [look_head h1]
  unfold Gw.lookT
  rw [if_pos (by rw [show Mn.name Mn.kMan ((1 : Nat) : Int) = Mw.man 1 from rfl, h2]; decide)]
theorem opens_text {S : Sd} {t : List UInt8} {B : Nat} (h : Calm S) (hr : cont S = Mw.rest 1 t) (ht : t.length ≤ B) (hB : 2100 ≤ B) (hq : 5 * B ≤ S.quota) : HosOk (Gw.opens S) := by
  have h1 := h.read Mw.cur_named (x := Mw.headB 1) (by rw [hr, Mw.rest, if_neg (Mw.man_cur (n := 1) (Nat.le_refl 1) (by decide)).symm, if_pos rfl]; rfl)
  have h2 := h.read (Mw.man_named (n := 1) (Nat.le_refl 1) (by decide)) (x := t) (by rw [hr, Mw.rest, if_pos rfl])
  have e : Gw.look S = match Vw.views t with
    | none => (none, 9)
    | some (v, k, stop) => (some (⟨Mw.man 1, v, k, false⟩, decide (stop < t.length) || decide (30 < k)), 0) := by
    rw [look_head h1]
    unfold Gw.lookT
    rw [show Mn.name Mn.kMan ((1 : Nat) : Int) = Mw.man 1 from rfl, h2, if_neg (by simp)]
    rfl
  unfold Gw.opens
  rw [e]
  cases hv : Vw.views t with
  | none => rfl
  | some p =>
    obtain ⟨v, k, stop⟩ := p
    have hok := Vw.views_ok hv
    simp only
    split
    · have hg : Mn.greatest S.list Mn.kMan = ((1 : Nat) : Int) := greatest_rest h (Nat.le_refl 1) (by decide) hr
      obtain ⟨_, _, _, a4⟩ := Gw.rewrite_rest (M := ⟨Mw.man 1, v, k, false⟩) (n := 1) (k := 2) hok h (by decide) (by decide) (by decide) (by decide) (by decide) hr ht hB hq
      have e2 : Gw.rewriteM S ⟨Mw.man 1, v, k, false⟩ = Gw.rewrite S ⟨Mw.man 1, v, k, false⟩ (Mw.man 2) := by
        unfold Gw.rewriteM
        rw [if_neg (by simp), hg, if_neg (by decide)]
        rfl
      rw [e2, a4]
      exact ⟨rfl, hok⟩
    · exact ⟨rfl, hok⟩
end Go.Proofs.YthepokgkfaocmaaGreatDoor

/-
  How much a rewrite may add to a disk's lists; Saves onto a manifest at rest, change by change.
-/
namespace Go.Proofs.YthepokgkfaocmaaGreatDoor
open Go Go.RowKit

namespace Gw
open Mn
open Mw (kCur kTemp headB sweep sweep_load)
theorem fin_load {d : Sd} (hw : d.Wf) (M : Gs) (nm : List UInt8) : (fin d M nm).1.load ≤ d.load + 64 := by
  have h1 := Sd.syncDir_load d
  have h2 := list_len hw.syncDir
  have h3 := sweep_load nm (d.syncDir).1.list (d.syncDir).1
  unfold fin
  split
  · dsimp only; omega
  · dsimp only; omega
theorem ren_load {d : Sd} (hw : d.Wf) (M : Gs) (nm : List UInt8) : (ren d M nm).1.load ≤ d.load + 65 := by
  have h1 := Sd.rename_load d kTemp kCur
  have h2 := fin_load (hw.rename kTemp kCur) M nm
  unfold ren
  split
  · dsimp only; omega
  · omega
theorem sd1_load {d : Sd} (hw : d.Wf) (M : Gs) (nm : List UInt8) : (sd1 d M nm).1.load ≤ d.load + 65 := by
  have h1 := Sd.syncDir_load d
  have h2 := ren_load hw.syncDir M nm
  unfold sd1
  split
  · dsimp only; omega
  · omega
theorem hd_load {d : Sd} (hw : d.Wf) (M : Gs) (nm : List UInt8) : (hd d M nm).1.load ≤ d.load + 67 := by
  have h1 := Sd.write_load d kTemp (headB ((number nm kMan).getD 0))
  have h2 := sd1_load (hw.write kTemp (headB ((number nm kMan).getD 0))) M nm
  unfold hd
  split
  · dsimp only; omega
  · omega
theorem tmp_load {d : Sd} (hw : d.Wf) (M : Gs) (nm : List UInt8) : (tmp d M nm).1.load ≤ d.load + 68 := by
  have h1 := Sd.remove_load d kTemp
  have h2 := hd_load (hw.remove kTemp) M nm
  have h3 := hd_load hw M nm
  unfold tmp
  split
  · split
    · dsimp only; omega
    · omega
  · omega
theorem rewrite_load {d : Sd} (hw : d.Wf) (M : Gs) (nm : List UInt8) : (rewrite d M nm).1.load ≤ d.load + 70 := by
  have h1 := Sd.write_load d nm M.v.whole.rec_
  have h2 := tmp_load (hw.write nm M.v.whole.rec_) M nm
  unfold rewrite
  split
  · dsimp only; omega
  · omega

theorem rewriteM_load {d : Sd} (hw : d.Wf) (M : Gs) : (rewriteM d M).1.load ≤ d.load + 70 := by
  unfold rewriteM
  split
  · dsimp only; omega
  · split
    · dsimp only; omega
    · exact rewrite_load hw M _
theorem put_load (d : Sd) (M : Gs) (e : Ed) (v : Vw) : (put d M e v).1.load = d.load := by
  unfold put
  split
  · exact Sd.append_load _ _ _
  · split <;> simp [Sd.sync_load, Sd.append_load]
theorem save_load (d : Sd) (M : Gs) (e : Ed) : (save d M e).1.load = d.load := by
  unfold save
  split
  · rfl
  · split
    · rfl
    · split
      · rfl
      · exact put_load _ _ _ _
theorem save_put {d : Sd} {M : Gs} {e : Ed} {v : Vw} (hb : M.broken = false) (he : e.may = true) (hv : M.v.app e = some v) : save d M e = put d M e v := by
  unfold save
  rw [if_neg (by simp [hb]), if_neg (by simp [he]), hv]
end Gw
/-- Behind k Saves of changes that may follow one another. -/
structure HosI (vs : List Vw) (k : Nat) (S : Sd) (M : Gs) (t : List UInt8) : Prop where
  calm : Calm S
  rest : cont S = Mw.rest 1 t
  len : t.length ≤ 2100 * (k + 1)
  pos : 1 ≤ t.length
  quota : S.quota = 1048576
  load : S.load ≤ 100
  name : M.name = Mw.man 1
  broken : M.broken = false
  count : M.count = k + 1
  view : vs[k]? = some M.v
  ok : M.v.ok = true
theorem v1g_ok : v1g.ok = true := by decide
theorem new_eqG : ∃ S1, Gw.rewrite (Sd.new 1048576) ⟨[], v1g, 0, false⟩ (Mw.man 1) = (S1, ⟨Mw.man 1, v1g, 1, false⟩, 0) ∧ ∀ vs : List Vw, vs[0]? = some v1g → ∃ t, HosI vs 0 S1 ⟨Mw.man 1, v1g, 1, false⟩ t := by
  obtain ⟨n1, n2, n3, n4⟩ := Gw.rewrite_new (M := ⟨[], v1g, 0, false⟩) (k := 1) v1g_ok (Calm.new 1048576 (by omega)) (by omega) (by omega) (Calm.cont_new _) (by decide)
  refine ⟨(Gw.rewrite (Sd.new 1048576) ⟨[], v1g, 0, false⟩ (Mw.man 1)).1, Prod.ext rfl (by rw [n4]), fun vs hv => ⟨_, n1, n2, ?_, ?_, n3, ?_, rfl, rfl, rfl, hv, v1g_ok⟩⟩
  · have := Ed.rec_len (Vw.whole_may v1g_ok)
    simp only at this ⊢
    omega
  · rw [Ed.rec_, Fr.put_length]; omega
  · have := Gw.rewrite_load (Sd.new_wf 1048576 (by omega)) ⟨[], v1g, 0, false⟩ (Mw.man 1)
    have e : (Sd.new 1048576).load = 0 := rfl
    omega
theorem HosI.save {gs : List Ed} {vs : List Vw} {k : Nat} {S : Sd} {M : Gs} {t : List UInt8} (h : HosI vs k S M t) (hc : GChain gs vs) (hk : k < gs.length) (h8 : k < 50) : ∃ S' M', Gw.save S M gs[k] = (S', M', 0) ∧ ∃ t', HosI vs (k + 1) S' M' t' := by
  obtain ⟨he, u, v, hu, hv, hap⟩ := hc.step k hk
  have e1 : M.v = u := by have := h.view; rw [hu] at this; injection this with this; exact this.symm
  subst e1
  have hl := h.len
  obtain ⟨a1, a2, a3, a4, a5⟩ := Gw.put_rest (M := M) (v := v) (B := 2100 * (k + 1)) he h.calm (by omega) (by omega) h.rest h.name hl (by omega) (by omega) (by rw [h.quota]; omega)
  have e2 := Gw.save_put (d := S) h.broken he hap
  have hr := Ed.rec_len he
  refine ⟨_, { M with count := M.count + 1, v := v }, by rw [e2]; exact Prod.ext rfl a4, _, a1, a2, ?_, ?_, a3.trans h.quota, by rw [a5]; exact h.load, h.name, h.broken, ?_, hv, Vw.app_ok hap⟩
  · rw [List.length_append]; omega
  · rw [List.length_append]; have := h.pos; omega
  · show M.count + 1 = k + 1 + 1
    rw [h.count]
theorem conv_hos {B n : Nat} {w : World} {A : Option Addr} {l : List UInt8} (h : Row B w A n 1 (bts l)) (c : Nat) : (convert 32 9 (.slice A n c)).run Tryz.prog w = .ok (.string ⟨l.toArray⟩) w :=
  conv_row _ _ 5 Tryz.underlying32 Tryz.underlying5 Tryz.underlying9 h c
theorem Ev.ok.small {B : Nat} {w : World} {x : Ev} (h : x.ok B w) (hm : x.e.may = true) : x.m ≤ 40 ∧ x.n ≤ 40 := by
  have h1 := h.d.len
  have h2 := h.a.flen
  simp only [Ed.may, Bool.and_eq_true, decide_eq_true_eq] at hm
  simp only [icells, List.length_map] at h1
  omega
end Go.Proofs.YthepokgkfaocmaaGreatDoor

/-
  A row that the call owns, its cells set one by one.
-/
namespace Go.Proofs.YthepokgkfaocmaaGreatDoor
open Go Go.RowKit
/-- The block of a row that the call owns. -/
theorem own_box {w : World} {base size n c : Nat} {e : TypeId} {a : Addr} {xs : List Value} (h : w.ownsRow base e size (.slice (some a) n c) n xs) :
    ∃ g cur, a = ⟨g, 0, none⟩ ∧ base ≤ g ∧ BoxO w e g cur ∧ cur.length = c * size ∧ n ≤ c ∧ c ≤ maxLen ∧ cur.take (n * size) = xs := by
  rcases h.2 with ⟨h0, _⟩ | ⟨g, cap, cur, h1, hb, hg, hn, hc, hs, ht⟩
  · cases h0
  · injection h1 with h2 h3 h4
    injection h2 with h2
    subst h2 h4
    exact ⟨g, cur.toList, rfl, hb, by simpa [BoxO] using hg, by simpa using hs, hn, hc, ht⟩
theorem box_own {w : World} {base size n c g : Nat} {e : TypeId} {cur : List Value} (hb : base ≤ g) (h : BoxO w e g cur) (hl : cur.length = c * size) (hn : n ≤ c) (hc : c ≤ maxLen) : w.ownsRow base e size (.slice (some ⟨g, 0, none⟩) n c) n (cur.take (n * size)) :=
  ⟨by rw [List.length_take, hl]; exact Nat.min_eq_left (Nat.mul_le_mul_right _ hn), .inr ⟨g, c, cur.toArray, rfl, hb, h, hn, hc, by simpa using hl, by simp⟩⟩
theorem own_none {w : World} {base size n c : Nat} {e : TypeId} {xs : List Value} (h : w.ownsRow base e size (.slice none n c) n xs) : n = 0 ∧ c = 0 := by
  rcases h.2 with ⟨h0, _⟩ | ⟨g, cap, cur, h1, _⟩
  · injection h0 with _ h1 h2
    exact ⟨h1, h2⟩
  · cases h1
end Go.Proofs.YthepokgkfaocmaaGreatDoor
