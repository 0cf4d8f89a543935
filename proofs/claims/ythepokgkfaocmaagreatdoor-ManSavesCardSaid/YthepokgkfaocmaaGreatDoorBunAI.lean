/- Texts PlainRestB, LawA, LawB, Env, LawC, PlainView, EditG in one. No conditions. -/
import Derived.Test.YthepokgkfaocmaaGreatDoorBunAD
import Derived.Test.YthepokgkfaocmaaGreatDoorBunAH
import Derived.Test.YthepokgkfaocmaaGreatDoorBunAF
import Derived.Test.YthepokgkfaocmaaGreatDoorRows
import Derived.Stop.LaidErr
import Derived.LaidLaws
import Derived.LaidHandle
import Derived.Test.YthepokgkfaocmaaGreatDoorBunAB
import Derived.Test.YthepokgkfaocmaaGreatDoorBunAC

/-
  A manifest's disk at rest: what a rewrite, a Save, an Open make of it.
-/
namespace Go.Proofs.YthepokgkfaocmaaGreatDoor
open Go

namespace Mw
open Mn
def man (n : Nat) : List UInt8 := name kMan n
/-- One man file of the text t, and current, that leads to it. -/
def rest (n : Nat) (t : List UInt8) : List UInt8 → Option (List UInt8) := fun s => if s = man n then some t else if s = kCur then some (headB n) else none
theorem fits_kMan {n : Nat} (h1 : 1 ≤ n) (h2 : n ≤ 1073741824) : (fits n && isKind kMan) = true := by
  have : isKind kMan = true := by decide
  rw [this]
  simp [fits]
  omega
theorem man_digits {n : Nat} (h1 : 1 ≤ n) (h2 : n ≤ 1073741824) : man n = [109, 97, 110, 46] ++ Lib.decDigits n := by
  rw [man, name_digits (fits_kMan h1 h2)]
  rfl
theorem man_named {n : Nat} (h1 : 1 ≤ n) (h2 : n ≤ 1073741824) : Sd.named (man n) = true := name_named (fits_kMan h1 h2)
theorem man_cur {n : Nat} (h1 : 1 ≤ n) (h2 : n ≤ 1073741824) : man n ≠ kCur := by
  rw [man_digits h1 h2]
  simp [kCur]
theorem man_temp {n : Nat} (h1 : 1 ≤ n) (h2 : n ≤ 1073741824) : man n ≠ kTemp := by
  rw [man_digits h1 h2]
  simp [kTemp]
theorem cur_temp : kCur ≠ kTemp := by decide
theorem man_inj {n k : Nat} (h1 : 1 ≤ n) (h2 : n ≤ 1073741824) (e : man k = man n) : k = n := by
  have := name_inj (fits_kMan h1 h2) e
  omega
theorem number_man {n : Nat} (h1 : 1 ≤ n) (h2 : n ≤ 1073741824) : number (man n) kMan = some (n : Int) := number_name (fits_kMan h1 h2)
theorem number_cur : number kCur kMan = none := by
  unfold number
  rw [if_neg (by decide)]
theorem number_temp : number kTemp kMan = none := by
  unfold number
  rw [if_neg (by decide)]

theorem sweep_none (nm : List UInt8) : ∀ (l : List (List UInt8)) (d : Sd), (∀ s ∈ l, (number s kMan).isSome = true → s = nm) → sweep nm l d = d
  | [], d, _ => rfl
  | o :: r, d, h => by
    rw [sweep]
    have : ((number o kMan).isSome && !(o == nm)) = false := by
      cases ho : (number o kMan).isSome with
      | false => rfl
      | true =>
        have := h o (by simp) ho
        simp [this]
    rw [this]
    exact sweep_none nm r d (fun s hs => h s (by simp [hs]))
/-- One man file too many is removed. -/
theorem sweep_one {nm : List UInt8} {old : List UInt8} (hold : Sd.named old = true) (hne : old ≠ nm) (hnum : (number old kMan).isSome = true) : ∀ (l : List (List UInt8)) (d : Sd), Calm d → (∃ x, cont d old = some x) → old ∈ l → (∀ s ∈ l, (number s kMan).isSome = true → s = nm ∨ s = old) → l.Nodup →
    Calm (sweep nm l d) ∧ cont (sweep nm l d) = upd (cont d) old none ∧ (sweep nm l d).quota = d.quota
  | [], _, _, _, h, _, _ => by cases h
  | o :: r, d, hc, hx, hm, hl, hnd => by
    obtain ⟨n1, n2⟩ := List.nodup_cons.1 hnd
    rw [sweep]
    rcases List.mem_cons.1 hm with rfl | hm
    · obtain ⟨x, hx⟩ := hx
      obtain ⟨r1, r2, r3, r4⟩ := hc.remove hold hx
      have : ((number old kMan).isSome && !(old == nm)) = true := by simp [hnum, hne]
      rw [this, if_pos rfl, sweep_none nm r _ (fun s hs h => by
        rcases hl s (by simp [hs]) h with h1 | h1
        · exact h1
        · exact absurd (h1 ▸ hs) n1)]
      exact ⟨r2, r3, r4⟩
    · have : ((number o kMan).isSome && !(o == nm)) = false := by
        cases ho : (number o kMan).isSome with
        | false => rfl
        | true =>
          rcases hl o (by simp) ho with h1 | h1
          · simp [h1]
          · exact absurd (h1 ▸ hm) n1
      rw [this]
      exact sweep_one hold hne hnum r d hc hx hm (fun s hs => hl s (by simp [hs])) n2
theorem list_nodup {d : Sd} (h : Calm d) : d.list.Nodup := by
  unfold Sd.list
  rw [if_neg (by simp [h.dead])]
  have h1 : (d.names.map (·.1)).Nodup := by
    have := h.wf.apart
    unfold Nm.Apart at this
    exact List.Pairwise.map _ (fun a b hab => hab) this
  exact (List.mergeSort_perm _ _).nodup_iff.2 h1
theorem cur_named : Sd.named kCur = true := by decide
theorem temp_named : Sd.named kTemp = true := by decide
/-- A rewrite goes through, as far as to its sweep. -/
theorem rewrite_core {d : Sd} {M : Ms} {n k B : Nat} (h : Calm d) (hk1 : 1 ≤ k) (hk2 : k ≤ 1073741824) (hS : ∀ s x, cont d s = some x → (s = man n ∨ s = kCur) ∧ x.length ≤ B) (hn1 : 1 ≤ n) (hn2 : n ≤ 1073741824) (hnone : cont d (man k) = none)
    (hB : 200 ≤ B) (hq : 5 * B ≤ d.quota) :
    ∃ d6, Calm d6 ∧ cont d6 = upd (upd (upd (upd (cont d) (man k) (some (recB M.v))) kTemp (some (headB k))) kCur (some (headB k))) kTemp none ∧ d6.quota = d.quota ∧ rewrite d M (man k) = (sweep (man k) d6.list d6, { M with name := man k, count := 1 }, 0) := by
  have hr := recB_len M.v
  have hh := headB_len k
  have hnum : (number (man k) kMan).getD 0 = (k : Int) := by rw [number_man hk1 hk2]; rfl
  have hs0 : Small d [man n, kCur] B := ⟨fun s x hx => by
    rcases (hS s x hx).1 with rfl | rfl <;> simp, fun s x hx => (hS s x hx).2⟩
  have ht0 : cont d kTemp = none := by
    cases he : cont d kTemp with
    | none => rfl
    | some x =>
      rcases (hS _ x he).1 with h1 | h1
      · exact absurd h1.symm (man_temp hn1 hn2)
      · exact absurd h1.symm cur_temp
  obtain ⟨a1, a2, a3, a4⟩ := h.write (man_named hk1 hk2) hnone hs0 (by simp) (recB M.v) (by omega) (by simp; omega)
  have htk : kTemp ≠ man k := (man_temp hk1 hk2).symm
  have ht1 : cont (d.write (man k) (recB M.v)).1 kTemp = none := by rw [a3, upd, if_neg htk]; exact ht0
  have hrd := a2.read_none temp_named ht1
  have hs1 : Small (d.write (man k) (recB M.v)).1 [man k, man n, kCur] B := ⟨fun s x hx => by
    rw [a3, upd] at hx
    split at hx
    · subst_vars; simp
    · rcases (hS s x hx).1 with rfl | rfl <;> simp, fun s x hx => by
    rw [a3, upd] at hx
    split at hx
    · injection hx with hx; subst hx; omega
    · exact (hS s x hx).2⟩
  obtain ⟨b1, b2, b3, b4⟩ := a2.write temp_named ht1 hs1 (by simp) (headB k) (by omega) (by simp; omega)
  obtain ⟨e1, e2, e3, e4⟩ := b2.syncDir
  have htm : cont ((d.write (man k) (recB M.v)).1.write kTemp (headB k)).1.syncDir.1 kTemp = some (headB k) := by rw [e3, b3, upd, if_pos rfl]
  obtain ⟨f1, f2, f3, f4⟩ := e2.rename temp_named cur_named cur_temp.symm htm
  obtain ⟨g1, g2, g3, g4⟩ := f2.syncDir
  refine ⟨(((((d.write (man k) (recB M.v)).1.write kTemp (headB k)).1.syncDir).1.rename kTemp kCur).1.syncDir).1, g2, ?_, ?_, ?_⟩
  · rw [g3, f3, e3, b3, a3]
  · rw [g4, f4, e4, b4, a4]
  · unfold rewrite
    rw [if_neg (by simp [a1]), tmp, if_neg (by rw [hrd]; simp), hd, hnum, if_neg (by simp [b1]), sd1, if_neg (by simp [e1]), ren, if_neg (by simp [f1]), fin, if_neg (by simp [g1])]
/-- New: on a disk of no files. -/
theorem rewrite_new {d : Sd} {M : Ms} {k : Nat} (h : Calm d) (hk1 : 1 ≤ k) (hk2 : k ≤ 1073741824) (hc : cont d = fun _ => none) (hq : 1000 ≤ d.quota) :
    Calm (rewrite d M (man k)).1 ∧ cont (rewrite d M (man k)).1 = rest k (recB M.v) ∧ (rewrite d M (man k)).1.quota = d.quota ∧ (rewrite d M (man k)).2 = ({ M with name := man k, count := 1 }, 0) := by
  obtain ⟨d6, c1, c2, c3, c4⟩ := rewrite_core (n := k) (B := 200) (M := M) h hk1 hk2 (fun s x hx => by rw [hc] at hx; cases hx) hk1 hk2 (by rw [hc]) (Nat.le_refl _) (by omega)
  have hc6 : cont d6 = rest k (recB M.v) := by
    rw [c2, hc]
    funext s
    unfold upd rest
    by_cases h1 : s = kTemp
    · subst h1
      rw [if_pos rfl, if_neg (man_temp hk1 hk2).symm, if_neg cur_temp.symm]
    · rw [if_neg h1]
      by_cases h2 : s = kCur
      · subst h2
        rw [if_pos rfl, if_neg (man_cur hk1 hk2).symm, if_pos rfl]
      · rw [if_neg h2, if_neg h2, if_neg h1]
  have hsw : sweep (man k) d6.list d6 = d6 := sweep_none _ _ _ (fun s hs hn => by
    obtain ⟨x, hx⟩ := c1.mem_list.1 hs
    rw [hc6, rest] at hx
    split at hx
    · assumption
    · split at hx
      · rename_i h2
        rw [h2, number_cur] at hn
        cases hn
      · cases hx)
  rw [c4, hsw]
  exact ⟨c1, hc6, c3, rfl⟩
/-- A rewrite of a manifest at rest. -/
theorem rewrite_rest {d : Sd} {M : Ms} {n k B : Nat} {t : List UInt8} (h : Calm d) (hk1 : 1 ≤ k) (hk2 : k ≤ 1073741824) (hn1 : 1 ≤ n) (hn2 : n ≤ 1073741824) (hne : n ≠ k) (hc : cont d = rest n t) (ht : t.length ≤ B) (hB : 200 ≤ B) (hq : 5 * B ≤ d.quota) :
    Calm (rewrite d M (man k)).1 ∧ cont (rewrite d M (man k)).1 = rest k (recB M.v) ∧ (rewrite d M (man k)).1.quota = d.quota ∧ (rewrite d M (man k)).2 = ({ M with name := man k, count := 1 }, 0) := by
  have hkn : man k ≠ man n := fun e => hne (man_inj hn1 hn2 e).symm
  obtain ⟨d6, c1, c2, c3, c4⟩ := rewrite_core (n := n) (B := B) (M := M) h hk1 hk2 (fun s x hx => by
    rw [hc, rest] at hx
    split at hx
    · injection hx with hx; subst hx; exact ⟨.inl ‹_›, ht⟩
    · split at hx
      · injection hx with hx; subst hx; exact ⟨.inr ‹_›, by have := headB_len n; omega⟩
      · cases hx) hn1 hn2 (by rw [hc, rest, if_neg hkn, if_neg (man_cur hk1 hk2)]) hB hq
  have hc6 : ∀ s, cont d6 s = if s = man n then some t else rest k (recB M.v) s := fun s => by
    rw [c2, hc]
    unfold upd rest
    by_cases h1 : s = kTemp
    · subst h1
      rw [if_pos rfl, if_neg (man_temp hn1 hn2).symm, if_neg (man_temp hk1 hk2).symm, if_neg cur_temp.symm]
    · rw [if_neg h1]
      by_cases h2 : s = kCur
      · subst h2
        rw [if_pos rfl, if_neg (man_cur hn1 hn2).symm, if_neg (man_cur hk1 hk2).symm, if_pos rfl]
      · rw [if_neg h2, if_neg h2, if_neg h1]
        by_cases h3 : s = man k
        · subst h3
          rw [if_pos rfl, if_neg hkn, if_pos rfl]
        · rw [if_neg h3, if_neg h3, if_neg h2]
  have hold : ∃ x, cont d6 (man n) = some x := ⟨t, by rw [hc6, if_pos rfl]⟩
  obtain ⟨s1, s2, s3⟩ := sweep_one (nm := man k) (man_named hn1 hn2) hkn.symm (by rw [number_man hn1 hn2]; rfl) d6.list d6 c1 hold (c1.mem_list.2 hold) (fun s hs hn => by
    obtain ⟨x, hx⟩ := c1.mem_list.1 hs
    rw [hc6] at hx
    split at hx
    · exact .inr ‹_›
    · rw [rest] at hx
      split at hx
      · exact .inl ‹_›
      · split at hx
        · rename_i h2
          rw [h2, number_cur] at hn
          cases hn
        · cases hx) (list_nodup c1)
  rw [c4]
  refine ⟨s1, ?_, s3.trans c3, rfl⟩
  rw [s2]
  funext s
  rw [upd]
  by_cases h1 : s = man n
  · subst h1
    rw [if_pos rfl, rest, if_neg hkn.symm, if_neg (man_cur hn1 hn2)]
  · rw [if_neg h1, hc6, if_neg h1]
/-- A Save onto a manifest at rest. -/
theorem save_rest {d : Sd} {M : Ms} {n B : Nat} {t : List UInt8} {e : Bv} (h : Calm d) (hn1 : 1 ≤ n) (hn2 : n ≤ 1073741824) (hc : cont d = rest n t) (hm : M.name = man n) (hbr : M.broken = false) (ht : t.length ≤ B) (hB : 200 ≤ B) (hB2 : B ≤ 249000) (hq : 5 * B ≤ d.quota) :
    Calm (save d M e).1 ∧ cont (save d M e).1 = rest n (t ++ recB e) ∧ (save d M e).1.quota = d.quota ∧ (save d M e).2 = ({ M with count := M.count + 1, v := M.v.app e }, 0) ∧ (save d M e).1.load = d.load := by
  have hr := recB_len e
  have hct : cont d (man n) = some t := by rw [hc, rest, if_pos rfl]
  have hs : Small d [man n, kCur] B := ⟨fun s x hx => by
    rw [hc, rest] at hx
    split at hx
    · subst_vars; simp
    · split at hx
      · subst_vars; simp
      · exact absurd hx (by simp), fun s x hx => by
    rw [hc, rest] at hx
    split at hx
    · injection hx with hx; subst hx; exact ht
    · split at hx
      · injection hx with hx; subst hx; have := headB_len n; omega
      · cases hx⟩
  obtain ⟨_, l2⟩ := h.length_names hs
  simp only [List.length_cons, List.length_nil] at l2
  obtain ⟨a1, a2, a3, a4⟩ := h.append (man_named hn1 hn2) hct (recB e) (by omega) (by omega)
  have hct2 : cont (d.append (man n) (recB e)).1 (man n) = some (t ++ recB e) := by rw [a3, upd, if_pos rfl]
  obtain ⟨b1, b2, b3, b4⟩ := a2.sync (man_named hn1 hn2) hct2
  have hsv : save d M e = (((d.append (man n) (recB e)).1.sync (man n)).1, { M with count := M.count + 1, v := M.v.app e }, 0) := by
    unfold save
    rw [if_neg (by simp [hbr]), hm, if_neg (by simp [a1]), if_neg (by simp [b1])]
  rw [hsv]
  refine ⟨b2, ?_, b4.trans a4, rfl, by rw [Sd.sync_load, Sd.append_load]⟩
  rw [b3, a3, hc]
  funext s
  unfold upd rest
  split <;> rfl
end Mw
end Go.Proofs.YthepokgkfaocmaaGreatDoor

/-
  What the laws of manifests carry from call to call; the walk of awake.
-/
namespace Go.Proofs.YthepokgkfaocmaaGreatDoor
open Go Go.RowKit Go.Shelf

/-- A disk and its manifest, both made since W0. -/
structure At (W0 w : World) (X : Dw) (S : Sd) (m : Nat) (M : Ms) : Prop where
  dm : Dm w X S
  man : MK w m X.d M
  away : m ∉ X.foot
  low : ∀ g ∈ X.foot, W0.heap.size ≤ g
  lowm : W0.heap.size ≤ m
  bel : Below W0.heap.size W0 w
variable {W0 w w1 w2 : World} {X X1 : Dw} {S S1 : Sd} {m m1 : Nat} {M M1 : Ms}
theorem Chg.under {F : List Nat} {B : Nat} (h : Chg F w w1) (hB : B ≤ w.heap.size) (hF : ∀ g ∈ F, B ≤ g) : Below B w w1 := h.below hB hF
theorem At.mst (h : At W0 w X S m M) (hn : NG ≤ W0.heap.size) : Mst m X w S M w X := Mst.start h.dm h.man h.away (Nat.le_trans hn h.lowm)
theorem At.below (h : At W0 w X S m M) (hb : Below w.heap.size w w1) : At W0 w1 X S m M := ⟨h.dm.below hb, h.man.below hb, h.away, h.low, h.lowm, h.bel.trans (hb.mono h.bel.size)⟩
theorem At.mst_left (h : At W0 w X S m M) (k : Mst m X w S1 M1 w1 X1) : At W0 w1 X1 S1 m M1 :=
  ⟨k.acc.dm, by rw [k.acc.e]; exact k.man, k.away, fun g hg => by
    rcases k.acc.f g hg with h1 | h1
    · exact h.low g h1
    · exact Nat.le_trans h.bel.size h1, h.lowm, h.bel.trans (k.acc.c.under h.bel.size (fun g hg => by
    rcases List.mem_append.1 hg with h1 | h1
    · rw [List.mem_singleton.1 h1]; exact h.lowm
    · exact h.low g h1))⟩
theorem At.acc (h : At W0 w X S m M) (k : Acc [] X w S1 w1 X1) : At W0 w1 X1 S1 m M := by
  have hc : Chg X.foot w w1 := by simpa using k.c
  have ha : m ∉ X1.foot := fun hm => by
    rcases k.f m hm with h1 | h1
    · exact h.away h1
    · have := h.man.lt
      omega
  exact ⟨k.dm, by rw [k.e]; exact h.man.chg hc h.away, ha, fun g hg => by
    rcases k.f g hg with h1 | h1
    · exact h.low g h1
    · exact Nat.le_trans h.bel.size h1, h.lowm, h.bel.trans (hc.under h.bel.size h.low)⟩
/-- Another manifest of the disk is opened: both are there. -/
theorem At.born (h : At W0 w X S m M) (k : Born X w S1 M1 m1 w1 X1) : At W0 w1 X1 S1 m1 M1 ∧ MK w1 m X.d M :=
  ⟨⟨k.dm, by rw [k.e]; exact k.man, k.away, fun g hg => by
    rcases k.f g hg with h1 | h1
    · exact h.low g h1
    · exact Nat.le_trans h.bel.size h1, Nat.le_trans h.bel.size k.new, h.bel.trans (k.c.under h.bel.size h.low)⟩, h.man.chg k.c h.away⟩
theorem at_born (hl : ∀ g ∈ X.foot, W0.heap.size ≤ g) (hb : Below W0.heap.size W0 w) (k : Born X w S1 M1 m1 w1 X1) : At W0 w1 X1 S1 m1 M1 :=
  ⟨k.dm, by rw [k.e]; exact k.man, k.away, fun g hg => by
    rcases k.f g hg with h1 | h1
    · exact hl g h1
    · exact Nat.le_trans hb.size h1, Nat.le_trans hb.size k.new, hb.trans (k.c.under hb.size hl)⟩
theorem dm_new {q : Int} (hq : q ≤ 1099511627776) (he : Env w) (hd : DK w1 X (Sd.new q)) (hb : Below w.heap.size w w1) (hf : ∀ g ∈ X.foot, w.heap.size ≤ g) : Dm w1 X (Sd.new q) :=
  ⟨hd, Sd.new_wf q hq, he.below hb, fun g hg => Nat.le_trans he.base (hf g hg)⟩

/-- The text of changes, one behind the other. -/
def text (es : List Bv) : List UInt8 := Fr.all 6 (es.map Bv.bytes)
theorem text_snoc (es : List Bv) (e : Bv) : text (es ++ [e]) = text es ++ Mw.recB e := by simp [text, Fr.all, Mw.recB]
theorem text_one (e : Bv) : text [e] = Mw.recB e := by simp [text, Fr.all, Mw.recB]
theorem bytes_len (e : Bv) : e.bytes.length ≤ 60000 := by
  have h := recB_len e
  rw [Mw.recB, Fr.put_length] at h
  omega
theorem text_split (es : List Bv) : Fr.split (text es) = (List.replicate es.length 6, es.map Bv.bytes, (text es).length, 0) := by
  have h := Fr.split_all 6 (by omega) (by omega) (es.map Bv.bytes) (fun b hb => by
    obtain ⟨e, _, rfl⟩ := List.mem_map.1 hb
    exact bytes_len e)
  simpa [text] using h
theorem text_len (es : List Bv) : (text es).length ≤ es.length * 200 := by
  unfold text Fr.all
  have := flat_len (Fr.put 6) 200 (es.map Bv.bytes) (fun b hb => by
    obtain ⟨e, _, rfl⟩ := List.mem_map.1 hb
    exact recB_len e)
  simpa using this
/-- Changes that may follow one another, from nothing on. -/
structure Chain (es : List Bv) : Prop where
  pos : 0 < es.length
  may : ∀ e ∈ es, e.may = true
  ok : ∀ k, k < es.length → (Bv.run (es.take (k + 1))).ok = true
theorem Chain.one {e : Bv} (h : e.ok = true) (hz : Bv.app Bv.zero e = e) : Chain [e] := ⟨by simp, fun x hx => by
  rw [List.mem_singleton.1 hx]
  obtain ⟨_, h2, h3⟩ := Bv.ok_iff.1 h
  exact Bv.may_iff.2 ⟨h2, h3⟩, fun k hk => by
  have : k = 0 := by simp at hk; omega
  subst this
  simpa [Bv.run, hz] using h⟩
theorem Chain.snoc {es : List Bv} {e : Bv} (h : Chain es) (he : e.may = true) (hok : ((Bv.run es).app e).ok = true) : Chain (es ++ [e]) := ⟨by simp, fun x hx => by
  rcases List.mem_append.1 hx with h1 | h1
  · exact h.may x h1
  · rw [List.mem_singleton.1 h1]; exact he, fun k hk => by
  rcases Nat.lt_or_ge k es.length with h1 | h1
  · rw [List.take_append_of_le_length (by omega)]
    exact h.ok k h1
  · rw [List.take_of_length_le (by simp at hk ⊢; omega), Bv.run_snoc]
    exact hok⟩
theorem Chain.run_ok {es : List Bv} (h : Chain es) : (Bv.run es).ok = true := Go.Proofs.YthepokgkfaocmaaGreatDoor.run_ok h.pos h.ok
namespace Mw
open Mn
theorem sweep_load (nm : List UInt8) : ∀ (l : List (List UInt8)) (d : Sd), (sweep nm l d).load ≤ d.load + l.length
  | [], d => Nat.le_refl _
  | o :: r, d => by
    rw [sweep]
    have h := sweep_load nm r
    split
    · have h1 := h (d.remove o).1
      have h2 := Sd.remove_load d o
      simp only [List.length_cons]
      omega
    · have h1 := h d
      simp only [List.length_cons]
      omega
theorem fin_load {d : Sd} (hw : d.Wf) (M : Ms) (nm : List UInt8) : (fin d M nm).1.load ≤ d.load + 64 := by
  have h1 := Sd.syncDir_load d
  have h2 := list_len hw.syncDir
  have h3 := sweep_load nm (d.syncDir).1.list (d.syncDir).1
  unfold fin
  split
  · dsimp only; omega
  · dsimp only; omega
theorem ren_load {d : Sd} (hw : d.Wf) (M : Ms) (nm : List UInt8) : (ren d M nm).1.load ≤ d.load + 65 := by
  have h1 := Sd.rename_load d kTemp kCur
  have h2 := fin_load (hw.rename kTemp kCur) M nm
  unfold ren
  split
  · dsimp only; omega
  · omega
theorem sd1_load {d : Sd} (hw : d.Wf) (M : Ms) (nm : List UInt8) : (sd1 d M nm).1.load ≤ d.load + 65 := by
  have h1 := Sd.syncDir_load d
  have h2 := ren_load hw.syncDir M nm
  unfold sd1
  split
  · dsimp only; omega
  · omega
theorem hd_load {d : Sd} (hw : d.Wf) (M : Ms) (nm : List UInt8) : (hd d M nm).1.load ≤ d.load + 67 := by
  have h1 := Sd.write_load d kTemp (headB ((number nm kMan).getD 0))
  have h2 := sd1_load (hw.write kTemp (headB ((number nm kMan).getD 0))) M nm
  unfold hd
  split
  · dsimp only; omega
  · omega
theorem tmp_load {d : Sd} (hw : d.Wf) (M : Ms) (nm : List UInt8) : (tmp d M nm).1.load ≤ d.load + 68 := by
  have h1 := Sd.remove_load d kTemp
  have h2 := hd_load (hw.remove kTemp) M nm
  have h3 := hd_load hw M nm
  unfold tmp
  split
  · split
    · dsimp only; omega
    · omega
  · omega
theorem rewrite_load {d : Sd} (hw : d.Wf) (M : Ms) (nm : List UInt8) : (rewrite d M nm).1.load ≤ d.load + 70 := by
  have h1 := Sd.write_load d nm (recB M.v)
  have h2 := tmp_load (hw.write nm (recB M.v)) M nm
  unfold rewrite
  split
  · dsimp only; omega
  · omega
end Mw
end Go.Proofs.YthepokgkfaocmaaGreatDoor

/-
  The walk of awake.
-/
namespace Go.Proofs.YthepokgkfaocmaaGreatDoor
open Go Go.RowKit Go.Shelf

def v1 : Bv := ⟨1, 0, 0, 0, 0⟩
theorem v1_vw : v1.vw = .agg #[.int .i64 1, .slice none 0 0, .int .u64 0, .int .u64 0, .int .u64 0, .int .u64 0] := rfl
def eF (n : Nat) : Bv := ⟨0, n, 0, 0, 0⟩
theorem eF_ed (n : Nat) : (eF n).ed = .agg #[.slice none 0 0, .slice none 0 0, .int .i64 0, .int .u64 (n : Int), .int .u64 0, .int .u64 0, .int .u64 0] := rfl
theorem v1_chain : Chain [v1] := Chain.one (by decide) rfl
theorem man1 : Mw.man 1 = [109, 97, 110, 46, 49] := by
  rw [Mw.man_digits (by omega) (by omega), Lib.decDigits_one (by omega)]
  rfl
theorem tab12 : Mn.name Mn.kTab 12 = [116, 97, 98, 46, 49, 50] := by
  rw [Mn.name_digits (by decide)]
  show Mn.kTab ++ [46] ++ Lib.decDigits 12 = _
  rw [Lib.decDigits_two (by omega) (by omega)]
  rfl
theorem log3 : Mn.name Mn.kLog 3 = [108, 111, 103, 46, 51] := by
  rw [Mn.name_digits (by decide)]
  show Mn.kLog ++ [46] ++ Lib.decDigits 3 = _
  rw [Lib.decDigits_one (by omega)]
  rfl
theorem num12 : Mn.number [116, 97, 98, 46, 49, 50] Mn.kTab = some 12 := by
  rw [← tab12]
  exact Mn.number_name (by decide)

theorem vw_floor (g f c a l : Int) (W : World) : (Instr.field 31 (.agg #[.int .i64 g, .slice none 0 0, .int .u64 f, .int .u64 c, .int .u64 a, .int .u64 l]) 2).run Tryz.prog W = .ok (.int .u64 f) W := by kernel_rfl
theorem vw_log (g f c a l : Int) (W : World) : (Instr.field 31 (.agg #[.int .i64 g, .slice none 0 0, .int .u64 f, .int .u64 c, .int .u64 a, .int .u64 l]) 0).run Tryz.prog W = .ok (.int .i64 g) W := by kernel_rfl

set_option maxRecDepth 100000 in
set_option maxHeartbeats 1000000 in
theorem awake_any (w : World) (he : Env w) : Calls Tryz.prog 21 #[] w fun e w' => e = .returned (.bool true) ∧ Below w.heap.size w w' := by
  have hdn := dnew_any 10000 w
  go_enter Tryz.func21, Tryz.ntmps21
  go_wp2_with fail
  refine hdn.mono ?_
  rintro e w1 ⟨X, rfl, hdk, hb1, hfo⟩
  have hdm := dm_new (by omega) he hdk hb1 hfo
  have hcalm := Calm.new 10000 (by omega)
  obtain ⟨n1, n2, n3, n4⟩ := Mw.rewrite_new (M := ⟨[], v1, 0, false⟩) (k := 1) hcalm (by omega) (by omega) (Calm.cont_new _) (by decide)
  have hnew := mnew_any v1 (by decide) (by decide) hdm _ rfl (show (Mw.rewrite (Sd.new 10000) ⟨[], v1, 0, false⟩ (Mw.man 1)).2.2 = 0 by rw [n4])
  have e0 : (Mw.rewrite (Sd.new 10000) ⟨[], v1, 0, false⟩ (Mn.name Mn.kMan 1)) = Mw.rewrite (Sd.new 10000) ⟨[], v1, 0, false⟩ (Mw.man 1) := rfl
  rw [e0, n4, v1_vw] at hnew
  have hld := Mw.rewrite_load (Sd.new_wf 10000 (by omega)) ⟨[], v1, 0, false⟩ (Mw.man 1)
  rw [show (Sd.new 10000).load = 0 from rfl] at hld
  have n3' : (Mw.rewrite (Sd.new 10000) ⟨[], v1, 0, false⟩ (Mw.man 1)).1.quota = 10000 := n3
  generalize (Mw.rewrite (Sd.new 10000) ⟨[], v1, 0, false⟩ (Mw.man 1)).1 = S1 at *
  simp only at hnew
  clear hdn n4 e0 hcalm hdk n3
  have HN := Lib.hid hnew
  clear hnew
  go_wp2_with fail
  refine HN.out.mono ?_
  rintro e w2 ⟨m, X2, rfl, hbn⟩
  have hat := at_born hfo hb1 hbn
  have hxe := hbn.e
  have hng := he.base
  have hsv := save_any (eF 7) (by decide) (by decide) (by decide) (show (Mw.man 1).length ≤ 1000 by rw [man1]; decide) (hat.mst hng)
  have hch : Chain ([v1] ++ [eF 7]) := v1_chain.snoc (by decide) (by decide)
  have htx : text ([v1] ++ [eF 7]) = Mw.recB v1 ++ Mw.recB (eF 7) := by rw [text_snoc, text_one]
  have hr1 := recB_len v1
  have hr2 := recB_len (eF 7)
  obtain ⟨s1, s2, s3, s4, s5⟩ := Mw.save_rest (M := ⟨Mw.man 1, v1, 1, false⟩) (n := 1) (B := 1000) (t := Mw.recB v1) (e := eF 7) n1 (by omega) (by omega) n2 rfl rfl (by omega) (by omega) (by omega) (by omega)
  rw [← htx] at s2
  generalize Mw.save S1 ⟨Mw.man 1, v1, 1, false⟩ (eF 7) = P at *
  obtain ⟨S2, M2, er⟩ := P
  simp only at s1 s2 s3 s4 s5
  injection s4 with s4 s6
  subst s4 s6
  rw [eF_ed] at hsv
  have HSV := Lib.hid hsv
  have HB := Lib.hid hbn
  clear hsv hbn HN hr1 hr2
  go_wp2_with fail
  refine HSV.out.mono ?_
  rintro e w3 ⟨rfl, X3, h3⟩
  have hat3 := hat.mst_left h3
  have hxe3 := h3.acc.e
  have htl : (text ([v1] ++ [eF 7])).length ≤ 400 := text_len _
  have hcur : S2.read Mw.kCur = (Mw.headB 1, 0) := s1.read Mw.cur_named (by rw [s2, Mw.rest, if_neg (Mw.man_cur (by omega) (by omega)).symm, if_pos rfl]; rfl)
  have hmn : S2.read (Mw.man 1) = (text ([v1] ++ [eF 7]), 0) := s1.read (Mw.man_named (by omega) (by omega)) (by rw [s2, Mw.rest, if_pos rfl])
  have hop := open_any 1 (by omega) (by omega) (text ([v1] ++ [eF 7])) ([v1] ++ [eF 7]) (text ([v1] ++ [eF 7])).length 0 hcur hmn (by omega) (text_split _) (.inl rfl) hch.pos (by decide) hch.may hch.ok (Nat.le_refl _) hat3.dm (by omega) (S2, ⟨Mn.name Mn.kMan (1 : Nat), Bv.run ([v1] ++ [eF 7]), ([v1] ++ [eF 7]).length, false⟩, 0) (by simp) rfl
  rw [hxe3, hxe] at hop
  have HOP := Lib.hid hop
  clear hop hcur hmn htl HSV
  go_wp2_with fail
  refine HOP.out.mono ?_
  rintro e w4 ⟨m4, X4, rfl, hb4⟩
  obtain ⟨hat4, hmm⟩ := hat3.born hb4
  have hnum := number_any ⟨#[116, 97, 98, 46, 49, 50]⟩ ⟨#[116, 97, 98]⟩ (by decide) (by decide) w4 hat4.dm.env
  have e1 : Mn.number (⟨#[116, 97, 98, 46, 49, 50]⟩ : ByteArray).data.toList (⟨#[116, 97, 98]⟩ : ByteArray).data.toList = some 12 := num12
  rw [e1, numV] at hnum
  clear HOP hb4
  go_wp2_with fail
  refine hnum.mono ?_
  rintro e w5 ⟨rfl, hb5⟩
  have hat5 := hat4.below hb5
  have hmm5 := hmm.below hb5
  have hvw := mview_any X4.d hat5.man
  have hfd := vw_floor 1 7 0 0 0
  have erv : (Bv.run ([v1] ++ [eF 7])).vw = .agg #[.int .i64 1, .slice none 0 0, .int .u64 7, .int .u64 0, .int .u64 0, .int .u64 0] := rfl
  rw [erv] at hvw
  clear hnum
  go_wp2_with fail
  refine hvw.mono ?_
  rintro e w6 ⟨rfl, hb6⟩
  have hat6 := hat5.below hb6
  have hnm := mname_any X3.d (hmm5.below hb6)
  have enm : str (Mw.man 1) = ⟨#[109, 97, 110, 46, 49]⟩ := by rw [man1]; rfl
  simp only [enm] at hnm
  clear hvw
  go_wp2_with fail
  refine hnm.mono ?_
  rintro e w7 ⟨rfl, rfl⟩
  have hlg := name_any ⟨#[108, 111, 103]⟩ (by decide) 3 (by omega) w6 hat6.dm.env
  have elg : str (Mn.name (⟨#[108, 111, 103]⟩ : ByteArray).data.toList 3) = ⟨#[108, 111, 103, 46, 51]⟩ := by
    rw [show (⟨#[108, 111, 103]⟩ : ByteArray).data.toList = Mn.kLog from rfl, log3]
    rfl
  rw [elg] at hlg
  clear hnm
  go_wp2_with fail
  refine hlg.mono ?_
  rintro e w8 ⟨rfl, hb8⟩
  have hfin := (hat6.below hb8).bel
  clear hlg
  go_wp2
  go_ret
  exact ⟨rfl, hfin⟩
end Go.Proofs.YthepokgkfaocmaaGreatDoor

/-
  From what a row lists of variables to what the walks ask of them.
-/
namespace Go.Proofs.YthepokgkfaocmaaGreatDoor
open Go Go.Shelf Go.RowKit

theorem star_es : "*" ++ "errors.errorString" = "*errors.errorString" := by decide
theorem row_es (u : TypeId) (h : Tryz.prog.typeName? 3 u = some "*errors.errorString") : u = 223 :=
  typeName_ptr_named (nm := "errors.errorString") (by rw [star_es]; kernel_rfl) (by kernel_rfl) (by decide) u (by rw [star_es]; exact h)
theorem env_of {a b : String × DataW Unit} (W : World) (h : laidMet Tryz.prog [a, b, ("internal/strconv.uint64pow10", Rows.laid_internal_strconv_uint64pow10), ("strconv.ErrRange", Rows.laid_strconv_ErrRange), ("strconv.ErrSyntax", Rows.laid_strconv_ErrSyntax)] W) : Env W := by
  have h2 := h.tail.tail
  have ht : Lib.TabIs Tryz.prog W "internal/strconv.uint64pow10" .u64 Lib.pow10Tab :=
    Lib.tabIs_of_head (g := gOf "internal/strconv.uint64pow10") (t := 219) (e := 29) (n := 20) glob1 (by kernel_rfl) Tryz.underlying219 Tryz.underlying29 (by kernel_rfl) (by kernel_rfl) h2
  obtain ⟨a1, s1, hv1, _⟩ := laid_sentinel h2.tail (g := gOf "strconv.ErrRange") glob3 (by kernel_rfl) Tryz.underlying109 row_es Tryz.underlying223 Tryz.underlying225 rfl rfl Tryz.underlying9 (by kernel_rfl) (by kernel_rfl)
  obtain ⟨a2, s2, hv2, _⟩ := laid_sentinel h2.tail.tail (g := gOf "strconv.ErrSyntax") glob2 (by kernel_rfl) Tryz.underlying109 row_es Tryz.underlying223 Tryz.underlying225 rfl rfl Tryz.underlying9 (by kernel_rfl) (by kernel_rfl)
  exact ⟨ht, ⟨_, _, hv2⟩, ⟨_, _, hv1⟩⟩
end Go.Proofs.YthepokgkfaocmaaGreatDoor

/-
  A manifest of a chain of changes, from call to call: Save, Open.
-/
namespace Go.Proofs.YthepokgkfaocmaaGreatDoor
open Go Go.RowKit Go.Shelf

theorem app_zero (e : Bv) : Bv.app Bv.zero e = e := by
  have h : ∀ a : Nat, orElse a 0 = a := fun a => by unfold orElse; split <;> simp_all
  cases e
  simp [Bv.app, Bv.zero, h]
theorem chain_one {e : Bv} (h : e.ok = true) : Chain [e] := Chain.one h (app_zero e)
theorem run_one (e : Bv) : Bv.run [e] = e := app_zero e

/-- A disk at rest with its manifest: the n-th man file holds the changes es. -/
structure Lst (W0 w : World) (X : Dw) (S : Sd) (m n : Nat) (es : List Bv) : Prop where
  at_ : At W0 w X S m ⟨Mw.man n, Bv.run es, es.length, false⟩
  calm : Calm S
  rest : cont S = Mw.rest n (text es)
  chain : Chain es
  quota : S.quota = 1048576
  n1 : 1 ≤ n
  n2 : n ≤ 1000000
  load : S.load ≤ 1000000000
  env0 : NG ≤ W0.heap.size
variable {W0 w w1 w2 : World} {X X1 : Dw} {S S1 : Sd} {m m1 n : Nat} {M : Ms} {es : List Bv}

theorem Lst.below (h : Lst W0 w X S m n es) (hb : Below w.heap.size w w1) : Lst W0 w1 X S m n es := { h with at_ := h.at_.below hb }
theorem man_len (n : Nat) : (Mw.man n).length ≤ 1000 := name_le n
theorem Lst.save (h : Lst W0 w X S m n es) (hel : es.length ≤ 200) (e : Bv) (he : e.may = true) (hok : ((Bv.run es).app e).ok = true) :
    Calls Tryz.prog 15 #[.pointer (some ⟨m, 0, none⟩), e.ed] w fun r w' => r = .returned (.int .i64 0) ∧ ∃ X' S', X'.d = X.d ∧ Lst W0 w' X' S' m n (es ++ [e]) ∧ S'.load = S.load := by
  have htl := text_len es
  obtain ⟨s1, s2, s3, s4, s5⟩ := Mw.save_rest (M := ⟨Mw.man n, Bv.run es, es.length, false⟩) (n := n) (B := 100000) (t := text es) (e := e) h.calm h.n1 (by have := h.n2; omega) h.rest rfl rfl (by omega) (by omega) (by omega) (by have := h.quota; omega)
  have hsv := save_any e he hok (show es.length ≤ 1000000000 by omega) (man_len n) (h.at_.mst h.env0)
  refine hsv.mono ?_
  rintro r w' ⟨rfl, X', h3⟩
  have hat := h.at_.mst_left h3
  have hxd := h3.acc.e
  generalize Mw.save S ⟨Mw.man n, Bv.run es, es.length, false⟩ e = P at *
  obtain ⟨S2, M2, er⟩ := P
  simp only at s1 s2 s3 s4 s5 hat
  injection s4 with s4 s6
  subst s4 s6
  refine ⟨rfl, X', S2, hxd, ⟨?_, s1, by rw [s2, text_snoc], h.chain.snoc he hok, s3.trans h.quota, h.n1, h.n2, by have := h.load; omega, h.env0⟩, s5⟩
  rw [Bv.run_snoc, List.length_append]
  exact hat
theorem greatest_rest {d : Sd} {t : List UInt8} (h : Calm d) (hn1 : 1 ≤ n) (hn2 : n ≤ 1073741824) (hc : cont d = Mw.rest n t) : Mn.greatest d.list Mn.kMan = n := by
  have key : ∀ (l : List (List UInt8)) (a : Int), (∀ s ∈ l, (Mn.number s Mn.kMan).getD 0 = 0 ∨ (Mn.number s Mn.kMan).getD 0 = (n : Int)) → (a = 0 ∨ a = (n : Int)) → (a = (n : Int) ∨ ∃ s ∈ l, (Mn.number s Mn.kMan).getD 0 = (n : Int)) → l.foldl (fun m s => max m ((Mn.number s Mn.kMan).getD 0)) a = (n : Int) := by
    intro l
    induction l with
    | nil =>
      intro a _ h2 h3
      rcases h3 with h3 | ⟨s, hs, _⟩
      · simpa using h3
      · cases hs
    | cons s r ih =>
      intro a h1 h2 h3
      simp only [List.foldl_cons]
      have hs := h1 s (by simp)
      refine ih _ (fun x hx => h1 x (by simp [hx])) (by rcases h2 with h2 | h2 <;> rcases hs with hs | hs <;> rw [h2, hs] <;> omega) ?_
      rcases h3 with h3 | ⟨x, hx, h3⟩
      · left; rw [h3]; rcases hs with hs | hs <;> rw [hs] <;> omega
      · rcases List.mem_cons.1 hx with rfl | hx
        · left; rw [h3]; rcases h2 with h2 | h2 <;> rw [h2] <;> omega
        · exact .inr ⟨x, hx, h3⟩
  refine key d.list 0 (fun s hs => ?_) (.inl rfl) (.inr ⟨Mw.man n, h.mem_list.2 ⟨t, by rw [hc, Mw.rest, if_pos rfl]⟩, by rw [Mw.number_man hn1 hn2]; rfl⟩)
  obtain ⟨x, hx⟩ := h.mem_list.1 hs
  rw [hc, Mw.rest] at hx
  split at hx
  · right; subst_vars; rw [Mw.number_man hn1 hn2]; rfl
  · split at hx
    · left; subst_vars; rw [Mw.number_cur]; rfl
    · cases hx
/-- What an Open of a disk at rest gives, whose man file has the text t. -/
theorem rewriteM_rest {d : Sd} {M : Ms} {t : List UInt8} (h : Calm d) (hn1 : 1 ≤ n) (hn2 : n ≤ 1000000) (hc : cont d = Mw.rest n t) (ht : t.length ≤ 100000) (hq : d.quota = 1048576) (hbr : M.broken = false) :
    Calm (Mw.rewriteM d M).1 ∧ cont (Mw.rewriteM d M).1 = Mw.rest (n + 1) (Mw.recB M.v) ∧ (Mw.rewriteM d M).1.quota = d.quota ∧ (Mw.rewriteM d M).2 = ({ M with name := Mw.man (n + 1), count := 1 }, 0) ∧ (Mw.rewriteM d M).1.load ≤ d.load + 70 := by
  have hg := greatest_rest h hn1 (by omega) hc
  have e : Mw.rewriteM d M = Mw.rewrite d M (Mw.man (n + 1)) := by
    unfold Mw.rewriteM
    rw [if_neg (by simp [hbr]), hg, if_neg (by omega)]
    rfl
  rw [e]
  obtain ⟨a1, a2, a3, a4⟩ := Mw.rewrite_rest (M := M) (n := n) (k := n + 1) (B := 100000) h (by omega) (by omega) hn1 (by omega) (by omega) hc ht (by omega) (by omega)
  exact ⟨a1, a2, a3, a4, Mw.rewrite_load h.wf M _⟩
/-- Open, of a disk at rest, whose man file may have a torn end. -/
theorem open_at (h : At W0 w X S m M) (hc : Calm S) {tl : List UInt8} (hr : cont S = Mw.rest n (text es ++ tl)) (hch : Chain es) (hq : S.quota = 1048576) (n1 : 1 ≤ n) (n2 : n + 1 ≤ 1000000) (hld : S.load + 70 ≤ 1000000000) (he0 : NG ≤ W0.heap.size) (hel : es.length ≤ 200) (htl : tl.length ≤ 1000) (er : Nat) (her : er = 0 ∨ er = 4)
    (hs : Fr.split (text es ++ tl) = (List.replicate es.length 6, es.map Bv.bytes, (text es).length, er)) :
    Calls Tryz.prog 19 #[.pointer (some ⟨X.d, 0, none⟩)] w fun r w' => ∃ m' X' S' n' es', r = .returned (.tuple #[.pointer (some ⟨m', 0, none⟩), .int .i64 0]) ∧ X'.d = X.d ∧ Lst W0 w' X' S' m' n' es' ∧ Bv.run es' = Bv.run es ∧ es'.length ≤ 30 ∧ n' ≤ n + 1 ∧ S'.load ≤ S.load + 70 ∧ es'.length ≤ es.length := by
  have hcur : S.read Mw.kCur = (Mw.headB n, 0) := hc.read Mw.cur_named (by rw [hr, Mw.rest, if_neg (Mw.man_cur n1 (by omega)).symm, if_pos rfl])
  have hmn : S.read (Mn.name Mn.kMan n) = (text es ++ tl, 0) := hc.read (Mw.man_named n1 (by omega)) (by rw [hr]; exact if_pos rfl)
  have htx := text_len es
  have hlen : (text es ++ tl).length = (text es).length + tl.length := List.length_append
  have hop := open_any n n1 (by omega) (text es ++ tl) es (text es).length er hcur hmn (by omega) hs her hch.pos (by omega) hch.may hch.ok (by omega) h.dm (by omega)
  cases hmust : (decide ((text es).length < (text es ++ tl).length) || decide (30 < es.length)) with
  | true =>
    rw [hmust] at hop
    obtain ⟨a1, a2, a3, a4, a5⟩ := rewriteM_rest (M := ⟨Mw.man n, Bv.run es, es.length, false⟩) hc n1 (by omega) hr (by omega) hq rfl
    refine (hop _ (if_pos rfl).symm (congrArg Prod.snd a4)).mono ?_
    rintro r w' ⟨m', X', rfl, hb⟩
    have hb' : Born X w (Mw.rewriteM S ⟨Mw.man n, Bv.run es, es.length, false⟩).1 (Mw.rewriteM S ⟨Mw.man n, Bv.run es, es.length, false⟩).2.1 m' w' X' := hb
    have ha := at_born h.low h.bel hb'
    rw [a4] at ha
    refine ⟨m', X', _, n + 1, [Bv.run es], rfl, hb'.e, ⟨?_, a1, by rw [text_one]; exact a2, chain_one hch.run_ok, a3.trans hq, by omega, n2, by omega, he0⟩, run_one _, by simp, Nat.le_refl _, a5, hch.pos⟩
    rw [run_one]
    exact ha
  | false =>
    rw [hmust] at hop
    simp only [Bool.or_eq_false_iff, decide_eq_false_iff_not] at hmust
    obtain ⟨h1, h2⟩ := hmust
    have ht0 : tl = [] := List.eq_nil_of_length_eq_zero (by omega)
    subst ht0
    refine (hop _ (if_neg (by simp)).symm rfl).mono ?_
    rintro r w' ⟨m', X', rfl, hb⟩
    have ha := at_born h.low h.bel hb
    exact ⟨m', X', _, n, es, rfl, hb.e, ⟨ha, hc, by rw [hr, List.append_nil], hch, hq, n1, by omega, show S.load ≤ 1000000000 by omega, he0⟩, rfl, by omega, by omega, show S.load ≤ S.load + 70 by omega, Nat.le_refl _⟩
/-- Open, of a disk at rest. -/
theorem Lst.open_ (h : Lst W0 w X S m n es) (hel : es.length ≤ 200) (n2 : n + 1 ≤ 1000000) (hld : S.load + 70 ≤ 1000000000) :
    Calls Tryz.prog 19 #[.pointer (some ⟨X.d, 0, none⟩)] w fun r w' => ∃ m' X' S' n' es', r = .returned (.tuple #[.pointer (some ⟨m', 0, none⟩), .int .i64 0]) ∧ X'.d = X.d ∧ Lst W0 w' X' S' m' n' es' ∧ Bv.run es' = Bv.run es ∧ es'.length ≤ 30 ∧ n' ≤ n + 1 ∧ S'.load ≤ S.load + 70 ∧ es'.length ≤ es.length :=
  open_at h.at_ h.calm (tl := []) (by rw [List.append_nil]; exact h.rest) h.chain h.quota h.n1 n2 hld h.env0 hel (by simp) 0 (.inl rfl) (by rw [List.append_nil]; exact text_split es)
/-- Read, of the man file. -/
theorem Lst.rd (h : Lst W0 w X S m n es) :
    Calls Tryz.prog 13 #[.pointer (some ⟨X.d, 0, none⟩), .string (str (Mw.man n))] w fun r w' => ∃ A c, r = .returned (.tuple #[.slice A (text es).length c, .int .i64 0]) ∧
      w'.ownsRow w.heap.size 5 1 (.slice A (text es).length c) (text es).length (bts (text es)) ∧ Below w.heap.size w w' := by
  have hmn : S.read (Mw.man n) = (text es, 0) := h.calm.read (Mw.man_named h.n1 (by have := h.n2; omega)) (by rw [h.rest]; exact if_pos rfl)
  have := read_any X S (str (Mw.man n)) (by rw [str_size]; have := man_len n; unfold maxLen; omega) h.calm.wf w h.at_.dm.dk
  rw [list_str, hmn] at this
  exact this
end Go.Proofs.YthepokgkfaocmaaGreatDoor

/-
  A change's bytes read again, and the View that a text of changes makes, in plain Lean: for any bytes.
-/
namespace Go.Proofs.YthepokgkfaocmaaGreatDoor

namespace Pn
theorem unlistF_put (ns : List Nat) (a r : List UInt8) (out : List Nat) (hns : ∀ n ∈ ns, n < 2 ^ 64) : unlistF ns.length a.length (a ++ (ns.flatMap put ++ r)) out = (out ++ ns, a.length + (ns.flatMap put).length, 0) := by
  induction ns generalizing a out with
  | nil => simp [unlistF]
  | cons n ns ih =>
    have e : a ++ ((n :: ns).flatMap put ++ r) = a ++ (put n ++ (ns.flatMap put ++ r)) := by simp
    rw [e, List.length_cons, unlistF, List.drop_left, take_put n _ (hns n (by simp))]
    simp only
    have e2 : a ++ (put n ++ (ns.flatMap put ++ r)) = (a ++ put n) ++ (ns.flatMap put ++ r) := by simp
    rw [e2, show a.length + (put n).length = (a ++ put n).length by simp, ih (a ++ put n) (out ++ [n]) (fun x hx => hns x (by simp [hx]))]
    simp [Nat.add_assoc]
/-- What was listed is told again. -/
theorem unlist_list (ns : List Nat) (r : List UInt8) (most : Nat) (hl : ns.length ≤ most) (hm : most < 2 ^ 64) (hns : ∀ n ∈ ns, n < 2 ^ 64) : unlist (list ns ++ r) most = (ns, (list ns).length, 0) := by
  have e : list ns ++ r = put ns.length ++ (ns.flatMap put ++ r) := by simp [list]
  unfold unlist
  rw [e, take_put _ _ (by omega)]
  simp only
  rw [if_neg (by omega), unlistF_put ns (put ns.length) r [] hns]
  simp [list]
/-- A list of numbers has as many as were asked for. -/
theorem unlistF_len : ∀ (k at_ : Nat) (l : List UInt8) (out : List Nat), (unlistF k at_ l out).2.2 = 0 → (unlistF k at_ l out).1.length = out.length + k
  | 0, at_, l, out, _ => by simp [unlistF]
  | k + 1, at_, l, out, h => by
    rw [unlistF] at h ⊢
    split at h
    · rename_i x s hx
      rw [unlistF_len k _ l _ h]
      simp
      omega
    · rename_i x s e hne hx
      exact absurd h (hne ·)
end Pn

/-- A reader: what is left, and whether all went well. -/
abbrev Rd := List UInt8 × Bool
namespace Rd
def take (most : Nat) (r : Rd) : Nat × Rd :=
  if r.2 = true ∧ (Pn.take r.1).2.2 = 0 ∧ (Pn.take r.1).1 ≤ most then ((Pn.take r.1).1, (r.1.drop (Pn.take r.1).2.1, true)) else (0, (r.1, false))
/-- So many files, one behind the other. -/
def files (r : Rd) : Nat → List (Int × Int) × Rd
  | 0 => ([], r)
  | k + 1 => ((files r k).1 ++ [(((take 3 (files r k).2).1 : Int), ((take 1073741824 (take 3 (files r k).2).2).1 : Int))], (take 1073741824 (take 3 (files r k).2).2).2)
theorem take_put {n most : Nat} (r : List UInt8) (h : n ≤ most) (hm : most < 2 ^ 64) : take most (Pn.put n ++ r, true) = (n, (r, true)) := by
  unfold take
  simp only [Pn.take_put n r (by omega)]
  rw [if_pos (by simpa using h), List.drop_left]
theorem take_le (most : Nat) (r : Rd) : (take most r).1 ≤ most := by
  unfold take
  split
  · exact (by assumption : _ ∧ _ ∧ _).2.2
  · exact Nat.zero_le _
theorem take_len (most : Nat) (r : Rd) : (take most r).2.1.length ≤ r.1.length := by
  unfold take
  split
  · simp
  · exact Nat.le_refl _
theorem files_len (r : Rd) (k : Nat) : (files r k).1.length = k := by
  induction k with
  | zero => rfl
  | succ k ih => simp [files, ih]
theorem files_left (r : Rd) (k : Nat) : (files r k).2.1.length ≤ r.1.length := by
  induction k with
  | zero => exact Nat.le_refl _
  | succ k ih =>
    simp only [files]
    exact Nat.le_trans (take_len _ _) (Nat.le_trans (take_len _ _) ih)
theorem files_put (fs : List (Int × Int)) (r : List UInt8) (h : fs.all isFile = true) : ∀ k, k ≤ fs.length → files ((fs.flatMap fun f => Pn.put f.1.toNat ++ Pn.put f.2.toNat) ++ r, true) k = (fs.take k, ((fs.drop k).flatMap (fun f => Pn.put f.1.toNat ++ Pn.put f.2.toNat) ++ r, true))
  | 0, _ => by simp [files]
  | k + 1, hk => by
    have hf : isFile fs[k] = true := List.all_eq_true.1 h _ (List.getElem_mem (by omega))
    rw [List.take_succ_eq_append_getElem (by omega)]
    have hd : fs.drop k = fs[k] :: fs.drop (k + 1) := List.drop_eq_getElem_cons (by omega)
    generalize fs[k] = f at *
    simp only [isFile, isNum, Bool.and_eq_true, decide_eq_true_eq] at hf
    rw [files, files_put fs r h k (by omega), hd, List.flatMap_cons, List.append_assoc, List.append_assoc]
    simp only
    rw [take_put _ (by omega) (by omega)]
    simp only
    rw [take_put _ (by omega) (by omega)]
    simp only
    rw [show ((f.1.toNat : Nat) : Int) = f.1 by omega, show ((f.2.toNat : Nat) : Int) = f.2 by omega]
end Rd

def Ed.zero : Ed := ⟨[], [], 0, 0, 0, 0, 0⟩
/-- The numbers behind a change's files. -/
def Rd.tail (drop : List Int) (fs : List (Int × Int)) (r0 : Rd) : Ed × Rd :=
  (⟨drop, fs, ((Rd.take 1073741824 r0).1 : Int), (Rd.take 281474976710656 (Rd.take 1073741824 r0).2).1, (Rd.take 281474976710656 (Rd.take 281474976710656 (Rd.take 1073741824 r0).2).2).1,
    (Rd.take 281474976710656 (Rd.take 281474976710656 (Rd.take 281474976710656 (Rd.take 1073741824 r0).2).2).2).1,
    (Rd.take 281474976710656 (Rd.take 281474976710656 (Rd.take 281474976710656 (Rd.take 281474976710656 (Rd.take 1073741824 r0).2).2).2).2).1⟩,
    (Rd.take 281474976710656 (Rd.take 281474976710656 (Rd.take 281474976710656 (Rd.take 281474976710656 (Rd.take 1073741824 r0).2).2).2).2).2)
/-- What a change's bytes hold, taken one by one. -/
def Ed.scan (b : List UInt8) : Ed × Rd :=
  Rd.tail ((Pn.unlist b 40).1.map fun n => ((min n 1073741825 : Nat) : Int))
    (Rd.files (Rd.take 40 (b.drop (Pn.unlist b 40).2.1, true)).2 (Rd.take 40 (b.drop (Pn.unlist b 40).2.1, true)).1).1
    (Rd.files (Rd.take 40 (b.drop (Pn.unlist b 40).2.1, true)).2 (Rd.take 40 (b.drop (Pn.unlist b 40).2.1, true)).1).2
def Ed.good (p : Ed × Rd) : Bool := p.2.2 && p.2.1.isEmpty && p.1.may
/-- The change that bytes are, and the error. -/
def Ed.read (b : List UInt8) : Ed × Nat :=
  if (Pn.unlist b 40).2.2 ≠ 0 then (Ed.zero, 3) else if Ed.good (Ed.scan b) = true then ((Ed.scan b).1, 0) else (Ed.zero, 3)
theorem Ed.read_may {b : List UInt8} (h : (Ed.read b).2 = 0) : (Ed.read b).1.may = true := by
  unfold Ed.read at h ⊢
  split
  · rw [if_pos (by assumption)] at h; cases h
  · rw [if_neg (by assumption)] at h
    split
    · have hg := (by assumption : Ed.good (Ed.scan b) = true)
      simp only [Ed.good, Bool.and_eq_true] at hg
      exact hg.2
    · rw [if_neg (by assumption)] at h; cases h
/-- A change that may be is read again. -/
theorem Ed.read_bytes (e : Ed) (h : e.may = true) : Ed.read e.bytes = (e, 0) := by
  obtain ⟨drop, add, log, f, c, a, l⟩ := e
  have hm := h
  simp only [Ed.may, four4, Bool.and_eq_true, decide_eq_true_eq] at hm
  obtain ⟨⟨⟨⟨⟨h1, h2⟩, h3⟩, h4⟩, h5⟩, h6⟩ := hm
  have hd : ∀ n ∈ drop, 1 ≤ n ∧ n ≤ 1073741824 := fun n hn => by
    have := List.all_eq_true.1 h5 n hn
    simpa [isNum] using this
  obtain ⟨r, hr⟩ : ∃ r, r = Pn.put add.length ++ (add.flatMap (fun f => Pn.put f.1.toNat ++ Pn.put f.2.toNat) ++ (Pn.put log.toNat ++ (Pn.put f ++ (Pn.put c ++ (Pn.put a ++ Pn.put l))))) := ⟨_, rfl⟩
  have hb : Ed.bytes ⟨drop, add, log, f, c, a, l⟩ = Pn.list (drop.map Int.toNat) ++ r := by rw [hr]; rfl
  have hu := Pn.unlist_list (drop.map Int.toNat) r 40 (by simpa using h1) (by omega) (fun n hn => by
    obtain ⟨x, hx, rfl⟩ := List.mem_map.1 hn
    have := hd x hx
    omega)
  have hdr : (drop.map Int.toNat).map (fun n => ((min n 1073741825 : Nat) : Int)) = drop := by
    rw [List.map_map]
    refine (List.map_congr_left fun x hx => ?_).trans (List.map_id _)
    have := hd x hx
    simp
    omega
  have h0 : Rd.take 40 (r, true) = (add.length, (add.flatMap (fun f => Pn.put f.1.toNat ++ Pn.put f.2.toNat) ++ (Pn.put log.toNat ++ (Pn.put f ++ (Pn.put c ++ (Pn.put a ++ Pn.put l)))), true)) := by
    rw [hr, Rd.take_put _ h2 (by omega)]
  have hf := Rd.files_put add (Pn.put log.toNat ++ (Pn.put f ++ (Pn.put c ++ (Pn.put a ++ Pn.put l)))) h6 add.length (Nat.le_refl _)
  rw [List.take_length, List.drop_length, List.flatMap_nil, List.nil_append] at hf
  have hs : Ed.scan (Ed.bytes ⟨drop, add, log, f, c, a, l⟩) = (⟨drop, add, log, f, c, a, l⟩, ([], true)) := by
    unfold Ed.scan
    rw [hb, hu]
    simp only
    rw [List.drop_left, h0]
    simp only
    rw [hf, hdr]
    unfold Rd.tail
    simp only
    rw [Rd.take_put _ (by omega) (by omega)]
    simp only
    rw [Rd.take_put _ (by omega) (by omega)]
    simp only
    rw [Rd.take_put _ (by omega) (by omega)]
    simp only
    rw [Rd.take_put _ (by omega) (by omega)]
    simp only
    rw [show Pn.put l = Pn.put l ++ [] by simp, Rd.take_put _ (by omega) (by omega)]
    simp only
    rw [show ((log.toNat : Nat) : Int) = log by omega]
  unfold Ed.read
  rw [hs, hb, hu]
  simp only [ne_eq, not_true_eq_false, if_false]
  rw [if_pos (by simp [Ed.good, h])]

/-- A View with one record more. -/
def Vw.step (o : Option Vw) (p : Nat × List UInt8) : Option Vw := match o with
  | none => none
  | some v => if (Ed.read p.2).2 = 0 ∧ p.1 = 6 then v.app (Ed.read p.2).1 else none
def Vw.steps (l : List (Nat × List UInt8)) : Option Vw := l.foldl Vw.step (some Vw.none_)
theorem Vw.steps_take {l : List (Nat × List UInt8)} {k : Nat} (h : k < l.length) : Vw.steps (l.take (k + 1)) = Vw.step (Vw.steps (l.take k)) l[k] := by
  unfold Vw.steps
  rw [List.take_succ_eq_append_getElem h, List.foldl_append]
  rfl
theorem Vw.steps_none : ∀ l : List (Nat × List UInt8), l.foldl Vw.step none = none
  | [] => rfl
  | _ :: r => Vw.steps_none r
theorem Vw.steps_stop {l : List (Nat × List UInt8)} {k : Nat} (h : Vw.steps (l.take k) = none) : Vw.steps l = none := by
  unfold Vw.steps at *
  rw [← List.take_append_drop k l, List.foldl_append, h]
  exact Vw.steps_none _
/-- The View that a text makes, how many changes there are, and where they end. -/
def Vw.views (t : List UInt8) : Option (Vw × Nat × Nat) :=
  if ((Fr.split t).2.2.2 ≠ 0 ∧ (Fr.split t).2.2.2 ≠ 4) ∨ (Fr.split t).2.1 = [] then none
  else (Vw.steps ((Fr.split t).1.zip (Fr.split t).2.1)).map fun v => (v, (Fr.split t).2.1.length, (Fr.split t).2.2.1)
theorem Vw.app_ok {v v' : Vw} {e : Ed} (h : v.app e = some v') : v'.ok = true := by
  unfold Vw.app at h
  cases hd : dropAll e.drop v.files with
  | none => rw [hd] at h; cases h
  | some fs =>
    rw [hd] at h
    simp only at h
    generalize ({ log := if e.log = 0 then v.log else e.log, files := fs ++ e.add, floor := orElse e.floor v.floor, cert := orElse e.cert v.cert, at_ := orElse e.at_ v.at_, lease := orElse e.lease v.lease } : Vw) = x at h
    by_cases hx : x.ok = true
    · rw [if_pos hx] at h
      injection h with h
      rwa [← h]
    · rw [if_neg hx] at h
      cases h
theorem Vw.steps_eds (es : List Ed) (h : ∀ e ∈ es, e.may = true) : Vw.steps (es.map fun e => (6, e.bytes)) = Vw.none_.run es := by
  have key : ∀ (es : List Ed) (o : Option Vw), (∀ e ∈ es, e.may = true) → (es.map fun e => ((6 : Nat), e.bytes)).foldl Vw.step o = o.bind fun v => v.run es := by
    intro es
    induction es with
    | nil => intro o _; cases o <;> rfl
    | cons e r ih =>
      intro o h
      simp only [List.map_cons, List.foldl_cons]
      rw [ih _ (fun x hx => h x (by simp [hx]))]
      cases o with
      | none => rfl
      | some v =>
        unfold Vw.step
        simp only [Ed.read_bytes e (h e (by simp)), true_and, if_true, Option.bind, Vw.run]
        cases v.app e <;> rfl
  exact key es (some Vw.none_) h
theorem zip_map_six (es : List Ed) : (List.replicate es.length 6).zip (es.map Ed.bytes) = es.map fun e => ((6 : Nat), e.bytes) := by
  induction es with
  | nil => rfl
  | cons e r ih => simp [List.replicate_succ, ih]
/-- The text of changes, one behind the other. -/
def Ed.text (es : List Ed) : List UInt8 := Fr.all 6 (es.map Ed.bytes)
theorem Ed.text_snoc (es : List Ed) (e : Ed) : Ed.text (es ++ [e]) = Ed.text es ++ e.rec_ := by simp [Ed.text, Fr.all, Ed.rec_]
/-- A text of changes, with a torn one behind it or none. -/
theorem Vw.views_cut (es : List Ed) (h : ∀ e ∈ es, e.may = true) (h0 : es ≠ []) (e : Ed) (he : e.may = true) (n : Nat) (hn : n < e.rec_.length) :
    Vw.views (Ed.text es ++ e.rec_.take n) = (Vw.none_.run es).map fun v => (v, es.length, (Ed.text es).length) := by
  have hb : ∀ b ∈ es.map Ed.bytes, b.length ≤ 60000 := fun b hb => by
    obtain ⟨x, hx, rfl⟩ := List.mem_map.1 hb
    have := Ed.bytes_len x (h x hx)
    omega
  have hs : ∃ er, (er = 0 ∨ er = 4) ∧ Fr.split (Ed.text es ++ e.rec_.take n) = (List.replicate es.length 6, es.map Ed.bytes, (Ed.text es).length, er) := by
    rcases Nat.eq_zero_or_pos n with rfl | hn0
    · refine ⟨0, .inl rfl, ?_⟩
      have := Fr.split_all 6 (by decide) (by decide) (es.map Ed.bytes) hb
      simpa [Ed.text] using this
    · refine ⟨4, .inr rfl, ?_⟩
      have hl := Ed.bytes_len e he
      have := Fr.split_cut 6 (by decide) (by decide) (es.map Ed.bytes) hb e.bytes (by omega) n hn0 hn
      simpa [Ed.text, Ed.rec_] using this
  obtain ⟨er, her, hs⟩ := hs
  unfold Vw.views
  rw [hs]
  simp only
  rw [if_neg (by
    simp only [not_or, not_and, List.map_eq_nil_iff]
    exact ⟨fun a b => by omega, h0⟩), zip_map_six, Vw.steps_eds es h]
  simp
theorem Vw.views_text (es : List Ed) (h : ∀ e ∈ es, e.may = true) (h0 : es ≠ []) :
    Vw.views (Ed.text es) = (Vw.none_.run es).map fun v => (v, es.length, (Ed.text es).length) := by
  have h1 := Vw.views_cut es h h0 Ed.zero (by decide) 0 (by rw [Ed.rec_, Fr.put_length]; omega)
  simpa using h1
end Go.Proofs.YthepokgkfaocmaaGreatDoor

/-
  Files (api.File: a level and a number) in memory; the walks of edit's isNum, isFile, and of searches in slices of files and of numbers.
-/
namespace Go.Proofs.YthepokgkfaocmaaGreatDoor
open Go Go.RowKit

/-- Files as cells. -/
def fcells (fs : List (Int × Int)) : List Value := fs.flatMap fun f => [.int .i64 f.1, .int .i64 f.2]
theorem fcells_len (fs : List (Int × Int)) : (fcells fs).length = fs.length * 2 := by
  induction fs with
  | nil => rfl
  | cons f t ih => simp only [fcells, List.flatMap_cons, List.length_append, List.length_cons] at ih ⊢; simp only [List.length_nil] at *; omega
theorem fcells_app (a b : List (Int × Int)) : fcells (a ++ b) = fcells a ++ fcells b := by simp [fcells]
theorem fcells_one (fs : List (Int × Int)) : ∀ u ∈ fcells fs, u.oneCell' = true := by
  intro u hu
  obtain ⟨f, _, h⟩ := List.mem_flatMap.1 hu
  simp at h
  rcases h with rfl | rfl <;> rfl
theorem fcells_get : ∀ (fs : List (Int × Int)) (k : Nat) (hk : k < fs.length), (fcells fs)[k * 2]? = some (.int .i64 (fs[k]).1) ∧ (fcells fs)[k * 2 + 1]? = some (.int .i64 (fs[k]).2)
  | f :: t, 0, _ => by simp [fcells]
  | f :: t, k + 1, hk => by
    have ih := fcells_get t k (by simpa using hk)
    have e : fcells (f :: t) = .int .i64 f.1 :: .int .i64 f.2 :: fcells t := by simp [fcells]
    rw [e, show (k + 1) * 2 = k * 2 + 1 + 1 by omega, show k * 2 + 1 + 1 + 1 = (k * 2 + 1) + 1 + 1 by omega]
    simpa using ih
theorem fcells_take : ∀ (fs : List (Int × Int)) (k : Nat), fcells (fs.take k) = (fcells fs).take (k * 2)
  | fs, 0 => by simp [fcells]
  | [], k + 1 => by simp [fcells]
  | f :: t, k + 1 => by
    have ih := fcells_take t k
    have e : ∀ t, fcells (f :: t) = .int .i64 f.1 :: .int .i64 f.2 :: fcells t := fun t => by simp [fcells]
    rw [List.take_succ_cons, e, e, ih, show (k + 1) * 2 = k * 2 + 1 + 1 by omega]
    simp
theorem fcells_drop (fs : List (Int × Int)) (k : Nat) : fcells (fs.drop k) = (fcells fs).drop (k * 2) := by
  have h1 := fcells_app (fs.take k) (fs.drop k)
  rw [List.take_append_drop, fcells_take] at h1
  have h2 := List.take_append_drop (k * 2) (fcells fs)
  rw [h1] at h2
  rw [← h1] at h2
  exact (List.append_cancel_left (h2.trans h1)).symm
/-- The file at place k: where its cells lie, as the walk reads them. -/
structure FAt (B : Nat) (w : World) (a : Addr) (k : Nat) (f : Int × Int) : Prop where
  blk : a.block < B
  c0 : w.cell? (a.add (k * 2)) = some (.int .i64 f.1)
  c1 : w.cell? ⟨(a.add (k * 2)).block, (a.add (k * 2)).off + 1, none⟩ = some (.int .i64 f.2)
theorem fadd_at (a : Addr) (k : Nat) {j : Nat} (hj : 0 < j) : a.add (k + j) = ⟨(a.add k).block, (a.add k).off + j, none⟩ := by
  rw [← add_twice, Addr.add, if_neg (by omega)]
variable {B n : Nat} {w w' : World} {A : Option Addr} {fs : List (Int × Int)}
theorem Row.flen (h : Row B w A n 2 (fcells fs)) : fs.length = n := by
  have := h.len
  rw [fcells_len] at this
  omega
theorem Row.file (h : Row B w A n 2 (fcells fs)) {k : Nat} (hk : k < n) : ∃ a, ∃ hl : k < fs.length, A = some a ∧ FAt B w a k fs[k] := by
  have hl : k < fs.length := by have := h.flen; omega
  have hlen := fcells_len fs
  obtain ⟨g0, g1⟩ := fcells_get fs k hl
  obtain ⟨a, e, hb, c0⟩ := h.cell (k * 2) (by omega)
  obtain ⟨a', e', _, c1⟩ := h.cell (k * 2 + 1) (by omega)
  rw [e] at e'
  injection e' with e'
  subst e'
  rw [List.getElem?_eq_getElem (by omega)] at g0 g1
  injection g0 with g0
  injection g1 with g1
  rw [g0] at c0
  rw [g1, fadd_at a (k * 2) (by omega)] at c1
  exact ⟨a, hl, e, hb, c0, c1⟩
/-- Numbers as cells of type int. -/
def icells (ns : List Int) : List Value := ns.map fun n => .int .i64 n
theorem icells_get (ns : List Int) (k : Nat) : (icells ns)[k]? = (ns[k]?).map fun n => .int .i64 n := by simp [icells]
theorem Row.ilen {ns : List Int} (h : Row B w A n 1 (icells ns)) : ns.length = n := by
  have := h.len
  simp [icells] at this
  omega
theorem Row.int_ {ns : List Int} (h : Row B w A n 1 (icells ns)) {k : Nat} (hk : k < n) : ∃ a, ∃ hl : k < ns.length, A = some a ∧ a.block < B ∧ w.cell? (a.add k) = some (.int .i64 ns[k]) := by
  obtain ⟨a, v, e, hb, hv, hc⟩ := h.at1 hk
  have hl : k < ns.length := by have := h.ilen; omega
  rw [icells_get, List.getElem?_eq_getElem hl] at hv
  injection hv with hv
  subst hv
  exact ⟨a, hl, e, hb, hc⟩

def fV (f : Int × Int) : Value := .agg #[.int .i64 f.1, .int .i64 f.2]
theorem isnum_gen (n : Int) (w : World) : Calls Tryz.prog 61 #[.int .i64 n] w fun e w' => e = .returned (.bool (isNum n)) ∧ w = w' := by
  obtain ⟨b, hb⟩ : ∃ b, b = isNum n := ⟨_, rfl⟩
  rw [← hb]
  unfold isNum at hb
  have HB := Lib.hid hb
  clear hb
  go_enter Tryz.func61, Tryz.ntmps61
  by_cases h1 : 1 ≤ n
  · by_cases h2 : n ≤ 1073741824
    · go_wp2
      go_ret
      exact ⟨by rw [HB.out]; simp [h1, h2], rfl⟩
    · go_wp2
      go_ret
      exact ⟨by rw [HB.out]; simp [h2], rfl⟩
  · go_wp2
    go_ret
    exact ⟨by rw [HB.out]; simp; omega, rfl⟩
theorem isfile_gen (f : Int × Int) (w : World) : Calls Tryz.prog 63 #[.agg #[.int .i64 f.1, .int .i64 f.2]] w fun e w' => e = .returned (.bool (isFile f)) ∧ Below w.heap.size w w' := by
  obtain ⟨l, n⟩ := f
  obtain ⟨b, hb⟩ : ∃ b, b = isFile (l, n) := ⟨_, rfl⟩
  rw [← hb]
  unfold isFile at hb
  simp only at hb ⊢
  cases hn : isNum n with
  | false =>
    rw [hn] at hb
    have hq := isnum_gen n
    rw [hn] at hq
    have HB := Lib.hid hb
    clear hb hn
    go_enter Tryz.func63, Tryz.ntmps63
    go_wp2_with fail
    refine (hq _).mono ?_
    rintro e w1 ⟨rfl, rfl⟩
    go_wp2
    go_ret
    exact ⟨by rw [HB.out]; rfl, (Below.refl _ _).alloc (Nat.le_refl _) _⟩
  | true =>
    rw [hn] at hb
    have hq := isnum_gen n
    rw [hn] at hq
    have HB := Lib.hid hb
    clear hb hn
    by_cases h1 : 0 ≤ l
    · by_cases h2 : l ≤ 3
      · go_enter Tryz.func63, Tryz.ntmps63
        go_wp2_with fail
        refine (hq _).mono ?_
        rintro e w1 ⟨rfl, rfl⟩
        go_wp2
        go_ret
        exact ⟨by rw [HB.out]; simp [h1, h2], (Below.refl _ _).alloc (Nat.le_refl _) _⟩
      · go_enter Tryz.func63, Tryz.ntmps63
        go_wp2_with fail
        refine (hq _).mono ?_
        rintro e w1 ⟨rfl, rfl⟩
        go_wp2
        go_ret
        exact ⟨by rw [HB.out]; simp; omega, (Below.refl _ _).alloc (Nat.le_refl _) _⟩
    · go_enter Tryz.func63, Tryz.ntmps63
      go_wp2_with fail
      refine (hq _).mono ?_
      rintro e w1 ⟨rfl, rfl⟩
      go_wp2
      go_ret
      exact ⟨by rw [HB.out]; simp; omega, (Below.refl _ _).alloc (Nat.le_refl _) _⟩
/-- What Ok asks of two files. -/
theorem okc_any (f : Int × Int) (b : Nat) (m : Int) (w : World) (hc : w.cell? ⟨b, 1, none⟩ = some (.int .i64 m)) :
    Calls Tryz.prog 65 #[.agg #[.int .i64 f.1, .int .i64 f.2], .pointer (some ⟨b, 0, none⟩)] w fun e w' => e = .returned (.bool (f.2 == m)) ∧ Below w.heap.size w w' := by
  have hc1 : ∀ o, (w.alloc o).cell? ⟨b, 1, none⟩ = some (.int .i64 m) := fun o => (World.cell?_alloc_lt w o _ (World.block_lt_of_cell? w _ hc)).trans hc
  go_enter Tryz.func65, Tryz.ntmps65
  go_wp2
  go_ret
  exact ⟨rfl, (Below.refl _ _).alloc (Nat.le_refl _) _⟩
theorem apc_any (f : Int × Int) (p : Addr) (m : Int) (w : World) (hc : w.cell? p = some (.int .i64 m)) :
    Calls Tryz.prog 75 #[.agg #[.int .i64 f.1, .int .i64 f.2], .pointer (some p)] w fun e w' => e = .returned (.bool (f.2 == m)) ∧ Below w.heap.size w w' := by
  have hc1 : ∀ o, (w.alloc o).cell? p = some (.int .i64 m) := fun o => (World.cell?_alloc_lt w o _ (World.block_lt_of_cell? w _ hc)).trans hc
  go_enter Tryz.func75, Tryz.ntmps75
  go_wp2
  go_ret
  exact ⟨rfl, (Below.refl _ _).alloc (Nat.le_refl _) _⟩
theorem may2_any (f : Int × Int) (w : World) : Calls Tryz.prog 101 #[.agg #[.int .i64 f.1, .int .i64 f.2]] w fun e w' => e = .returned (.bool (!isFile f)) ∧ Below w.heap.size w w' := by
  go_enter Tryz.func101, Tryz.ntmps101
  go_wp2_with fail
  refine (isfile_gen f _).mono ?_
  rintro e w1 ⟨rfl, hb⟩
  go_wp2
  go_ret
  exact ⟨rfl, later_ ((Below.refl _ _).alloc (Nat.le_refl _) _) hb⟩
theorem may1_any (n : Int) (w : World) : Calls Tryz.prog 100 #[.int .i64 n] w fun e w' => e = .returned (.bool (!isNum n)) ∧ w = w' := by
  go_enter Tryz.func100, Tryz.ntmps100
  go_wp2_with fail
  refine (isnum_gen n _).mono ?_
  rintro e w1 ⟨rfl, rfl⟩
  go_wp2
  go_ret
  exact ⟨rfl, rfl⟩
theorem ret_i {k : IntKind} {a b : Int} (h : a = b) : Ending.returned (.int k a) = .returned (.int k b) := by rw [h]
theorem ret_b {a b : Bool} (h : a = b) : Ending.returned (.bool a) = .returned (.bool b) := by rw [h]
/-- The place of the first that is so, or -1. -/
def fidx {α : Type} (P : α → Bool) (l : List α) : Int := if l.any P = true then (l.findIdx P : Int) else -1
theorem fidx_none {α : Type} {P : α → Bool} {l : List α} (h : l.any P = false) : fidx P l = -1 := by unfold fidx; rw [h]; rfl
theorem any_take {α : Type} {P : α → Bool} {l : List α} {k : Nat} (h : k < l.length) : (l.take (k + 1)).any P = ((l.take k).any P || P l[k]) := by
  rw [List.take_succ_eq_append_getElem h, List.any_append]
  simp
theorem fidx_some {α : Type} {P : α → Bool} {l : List α} {k : Nat} (hl : k < l.length) (h0 : (l.take k).any P = false) (h1 : P l[k] = true) : fidx P l = (k : Int) := by
  unfold fidx
  rw [if_pos (List.any_eq_true.2 ⟨_, List.getElem_mem hl, h1⟩)]
  congr 1
  rw [List.findIdx_eq hl]
  refine ⟨h1, fun j hj => ?_⟩
  have := List.any_eq_false.1 h0 l[j] (by
    rw [List.mem_take_iff_getElem]
    exact ⟨j, by omega, rfl⟩)
  simpa using this
theorem fidx_ge {α : Type} (P : α → Bool) (l : List α) : decide (0 ≤ fidx P l) = l.any P := by
  unfold fidx
  split
  · rename_i h; rw [h]; simp
  · rename_i h; simp at h; simp; exact h
theorem fidx_lt {α : Type} {P : α → Bool} {l : List α} (h : l.any P = true) : ∃ i : Nat, fidx P l = (i : Int) ∧ ∃ hi : i < l.length, P l[i] = true ∧ l.findIdx P = i := by
  unfold fidx
  rw [if_pos h]
  have hl : l.findIdx P < l.length := List.findIdx_lt_length.2 (by simpa using h)
  exact ⟨_, rfl, hl, List.findIdx_getElem (w := hl), rfl⟩
set_option maxRecDepth 100000 in
theorem fidx_cap (K : Nat) (hF : ∀ args w, (callFunc K args).run Tryz.prog w = .ok (.enter K args) w) (p : Addr) (P : Int × Int → Bool) (A : Option Addr) (n c : Nat) (fs : List (Int × Int)) (w : World) (hn : n ≤ 1000000) (hr : Row w.heap.size w A n 2 (fcells fs))
    (hK : ∀ f w1, Below w.heap.size w w1 → Calls Tryz.prog K #[.agg #[.int .i64 f.1, .int .i64 f.2], .pointer (some p)] w1 fun e w' => e = .returned (.bool (P f)) ∧ Below w1.heap.size w1 w') :
    Calls Tryz.prog 74 #[.slice A n c, .func (.func K) #[] #[.pointer (some p)]] w fun e w' => e = .returned (.int .i64 (fidx P fs)) ∧ Below w.heap.size w w' := by
  have hnn := hr.flen
  have HK := Lib.hid hK
  have HF := Lib.hid hF
  clear hK hF
  go_enter Tryz.func74, Tryz.ntmps74
  go_wp2
  go_loopw [8] (fun i wr => ∃ k : Nat, k ≤ n ∧ i = .int .i64 (k : Int) ∧ Hid ((fs.take k).any P = false) ∧ Below w.heap.size w wr) (fun i _ => n - (intOf i).toNat)
  case atStart => exact ⟨0, Nat.zero_le _, rfl, Lib.hid rfl, Below.refl _ _⟩
  case round =>
    obtain ⟨k, hk, rfl, hb, hbl⟩ := hrel
    by_cases hlt : k < n
    · obtain ⟨a, hl, rfl, hbk, c0, c1⟩ := (hr.below hbl).file hlt
      have ht := any_take (P := P) hl
      have hs := fun h1 => fidx_some (P := P) hl hb.out h1
      generalize fs[k] = f at *
      have HT := Lib.hid ht
      have HS := Lib.hid hs
      clear ht hs hl
      have hc := HK.out f wr hbl
      cases hp : P f with
      | true =>
        rw [hp] at hc
        have HP := Lib.hid hp
        clear hp
        go_wp2_with fail
        rw [HF.out, Oper.upon_enter]
        refine hc.mono ?_
        rintro e w1 ⟨rfl, hb1⟩
        go_wp2
        go_ret
        exact ⟨ret_i (HS.out HP.out).symm, later_ hbl hb1⟩
      | false =>
        rw [hp] at hc
        have HP := Lib.hid hp
        clear hp
        go_wp2_with fail
        rw [HF.out, Oper.upon_enter]
        refine hc.mono ?_
        rintro e w1 ⟨rfl, hb1⟩
        go_wp2
        go_roundw
        case rel => exact ⟨k + 1, by omega, by go_num, Lib.hid (by rw [HT.out, hb.out, HP.out]; rfl), later_ hbl hb1⟩
        case measure => simp [intOf]; omega
    · have hall : fidx P fs = -1 := fidx_none (by
        have hb' := hb.out
        rwa [List.take_of_length_le (by omega)] at hb')
      have HA := Lib.hid hall
      clear hall
      go_wp2
      go_ret
      exact ⟨ret_i HA.out.symm, hbl⟩
end Go.Proofs.YthepokgkfaocmaaGreatDoor
