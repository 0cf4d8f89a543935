/- Texts PlainRestG, LawG in one. No conditions. -/
import Derived.Test.YthepokgkfaocmaaGreatDoorBunQ
import Derived.Test.YthepokgkfaocmaaGreatDoorBunAA
import Derived.Test.YthepokgkfaocmaaGreatDoorBunAC
import Derived.Test.YthepokgkfaocmaaGreatDoorBunR

/-
  A manifest's disk at rest, for any View: what a rewrite, a Save make of it.
-/
namespace Go.Proofs.YthepokgkfaocmaaGreatDoor
open Go

namespace Gw
open Mn
open Mw (kCur kTemp headB sweep man rest man_named man_cur man_temp man_inj cur_temp cur_named temp_named number_man number_cur number_temp sweep_none sweep_one list_nodup)
/-- A rewrite goes through, as far as to its sweep. -/
theorem rewrite_core {d : Sd} {M : Gs} (hv : M.v.ok = true) {n k B : Nat} (h : Calm d) (hk1 : 1 ≤ k) (hk2 : k ≤ 1073741824) (hS : ∀ s x, cont d s = some x → (s = man n ∨ s = kCur) ∧ x.length ≤ B) (hn1 : 1 ≤ n) (hn2 : n ≤ 1073741824) (hnone : cont d (man k) = none)
    (hB : 2100 ≤ B) (hq : 5 * B ≤ d.quota) :
    ∃ d6, Calm d6 ∧ cont d6 = upd (upd (upd (upd (cont d) (man k) (some (M.v.whole.rec_))) kTemp (some (headB k))) kCur (some (headB k))) kTemp none ∧ d6.quota = d.quota ∧ rewrite d M (man k) = (sweep (man k) d6.list d6, { M with name := man k, count := 1 }, 0) := by
  have hr := Ed.rec_len (Vw.whole_may hv)
  have hh := headB_len k
  have hnum : (number (man k) kMan).getD 0 = (k : Int) := by rw [number_man hk1 hk2]; rfl
  have hs0 : Small d [man n, kCur] B := ⟨fun s x hx => by
    rcases (hS s x hx).1 with rfl | rfl <;> simp, fun s x hx => (hS s x hx).2⟩
  have ht0 : cont d kTemp = none := by
    cases he : cont d kTemp with
    | none => rfl
    | some x =>
      rcases (hS _ x he).1 with h1 | h1
      · exact absurd h1.symm (man_temp hn1 hn2)
      · exact absurd h1.symm cur_temp
  obtain ⟨a1, a2, a3, a4⟩ := h.write (man_named hk1 hk2) hnone hs0 (by simp) M.v.whole.rec_ (by omega) (by simp; omega)
  have htk : kTemp ≠ man k := (man_temp hk1 hk2).symm
  have ht1 : cont (d.write (man k) M.v.whole.rec_).1 kTemp = none := by rw [a3, upd, if_neg htk]; exact ht0
  have hrd := a2.read_none temp_named ht1
  have hs1 : Small (d.write (man k) M.v.whole.rec_).1 [man k, man n, kCur] B := ⟨fun s x hx => by
    rw [a3, upd] at hx
    split at hx
    · subst_vars; simp
    · rcases (hS s x hx).1 with rfl | rfl <;> simp, fun s x hx => by
    rw [a3, upd] at hx
    split at hx
    · injection hx with hx; subst hx; omega
    · exact (hS s x hx).2⟩
  obtain ⟨b1, b2, b3, b4⟩ := a2.write temp_named ht1 hs1 (by simp) (headB k) (by omega) (by simp; omega)
  obtain ⟨e1, e2, e3, e4⟩ := b2.syncDir
  have htm : cont ((d.write (man k) M.v.whole.rec_).1.write kTemp (headB k)).1.syncDir.1 kTemp = some (headB k) := by rw [e3, b3, upd, if_pos rfl]
  obtain ⟨f1, f2, f3, f4⟩ := e2.rename temp_named cur_named cur_temp.symm htm
  obtain ⟨g1, g2, g3, g4⟩ := f2.syncDir
  refine ⟨(((((d.write (man k) M.v.whole.rec_).1.write kTemp (headB k)).1.syncDir).1.rename kTemp kCur).1.syncDir).1, g2, ?_, ?_, ?_⟩
  · rw [g3, f3, e3, b3, a3]
  · rw [g4, f4, e4, b4, a4]
  · unfold rewrite
    rw [if_neg (by simp [a1]), tmp, if_neg (by rw [hrd]; simp), hd, hnum, if_neg (by simp [b1]), sd1, if_neg (by simp [e1]), ren, if_neg (by simp [f1]), fin, if_neg (by simp [g1])]
/-- New: on a disk of no files. -/
theorem rewrite_new {d : Sd} {M : Gs} (hv : M.v.ok = true) {k : Nat} (h : Calm d) (hk1 : 1 ≤ k) (hk2 : k ≤ 1073741824) (hc : cont d = fun _ => none) (hq : 10500 ≤ d.quota) :
    Calm (rewrite d M (man k)).1 ∧ cont (rewrite d M (man k)).1 = rest k M.v.whole.rec_ ∧ (rewrite d M (man k)).1.quota = d.quota ∧ (rewrite d M (man k)).2 = ({ M with name := man k, count := 1 }, 0) := by
  obtain ⟨d6, c1, c2, c3, c4⟩ := rewrite_core hv (n := k) (B := 2100) h hk1 hk2 (fun s x hx => by rw [hc] at hx; cases hx) hk1 hk2 (by rw [hc]) (Nat.le_refl _) (by omega)
  have hc6 : cont d6 = rest k M.v.whole.rec_ := by
    rw [c2, hc]
    funext s
    unfold upd rest
    by_cases h1 : s = kTemp
    · subst h1
      rw [if_pos rfl, if_neg (man_temp hk1 hk2).symm, if_neg cur_temp.symm]
    · rw [if_neg h1]
      by_cases h2 : s = kCur
      · subst h2
        rw [if_pos rfl, if_neg (man_cur hk1 hk2).symm, if_pos rfl]
      · rw [if_neg h2, if_neg h2, if_neg h1]
  have hsw : sweep (man k) d6.list d6 = d6 := sweep_none _ _ _ (fun s hs hn => by
    obtain ⟨x, hx⟩ := c1.mem_list.1 hs
    rw [hc6, rest] at hx
    split at hx
    · assumption
    · split at hx
      · rename_i h2
        rw [h2, number_cur] at hn
        cases hn
      · cases hx)
  rw [c4, hsw]
  exact ⟨c1, hc6, c3, rfl⟩
/-- A rewrite of a manifest at rest. -/
theorem rewrite_rest {d : Sd} {M : Gs} (hv : M.v.ok = true) {n k B : Nat} {t : List UInt8} (h : Calm d) (hk1 : 1 ≤ k) (hk2 : k ≤ 1073741824) (hn1 : 1 ≤ n) (hn2 : n ≤ 1073741824) (hne : n ≠ k) (hc : cont d = rest n t) (ht : t.length ≤ B) (hB : 2100 ≤ B) (hq : 5 * B ≤ d.quota) :
    Calm (rewrite d M (man k)).1 ∧ cont (rewrite d M (man k)).1 = rest k M.v.whole.rec_ ∧ (rewrite d M (man k)).1.quota = d.quota ∧ (rewrite d M (man k)).2 = ({ M with name := man k, count := 1 }, 0) := by
  have hkn : man k ≠ man n := fun e => hne (man_inj hn1 hn2 e).symm
  obtain ⟨d6, c1, c2, c3, c4⟩ := rewrite_core hv (n := n) (B := B) h hk1 hk2 (fun s x hx => by
    rw [hc, rest] at hx
    split at hx
    · injection hx with hx; subst hx; exact ⟨.inl ‹_›, ht⟩
    · split at hx
      · injection hx with hx; subst hx; exact ⟨.inr ‹_›, by have := headB_len n; omega⟩
      · cases hx) hn1 hn2 (by rw [hc, rest, if_neg hkn, if_neg (man_cur hk1 hk2)]) hB hq
  have hc6 : ∀ s, cont d6 s = if s = man n then some t else rest k M.v.whole.rec_ s := fun s => by
    rw [c2, hc]
    unfold upd rest
    by_cases h1 : s = kTemp
    · subst h1
      rw [if_pos rfl, if_neg (man_temp hn1 hn2).symm, if_neg (man_temp hk1 hk2).symm, if_neg cur_temp.symm]
    · rw [if_neg h1]
      by_cases h2 : s = kCur
      · subst h2
        rw [if_pos rfl, if_neg (man_cur hn1 hn2).symm, if_neg (man_cur hk1 hk2).symm, if_pos rfl]
      · rw [if_neg h2, if_neg h2, if_neg h1]
        by_cases h3 : s = man k
        · subst h3
          rw [if_pos rfl, if_neg hkn, if_pos rfl]
        · rw [if_neg h3, if_neg h3, if_neg h2]
  have hold : ∃ x, cont d6 (man n) = some x := ⟨t, by rw [hc6, if_pos rfl]⟩
  obtain ⟨s1, s2, s3⟩ := sweep_one (nm := man k) (man_named hn1 hn2) hkn.symm (by rw [number_man hn1 hn2]; rfl) d6.list d6 c1 hold (c1.mem_list.2 hold) (fun s hs hn => by
    obtain ⟨x, hx⟩ := c1.mem_list.1 hs
    rw [hc6] at hx
    split at hx
    · exact .inr ‹_›
    · rw [rest] at hx
      split at hx
      · exact .inl ‹_›
      · split at hx
        · rename_i h2
          rw [h2, number_cur] at hn
          cases hn
        · cases hx) (list_nodup c1)
  rw [c4]
  refine ⟨s1, ?_, s3.trans c3, rfl⟩
  rw [s2]
  funext s
  rw [upd]
  by_cases h1 : s = man n
  · subst h1
    rw [if_pos rfl, rest, if_neg hkn.symm, if_neg (man_cur hn1 hn2)]
  · rw [if_neg h1, hc6, if_neg h1]
/-- A Save onto a manifest at rest. -/
theorem put_rest {d : Sd} {M : Gs} {n B : Nat} {t : List UInt8} {e : Ed} {v : Vw} (he : e.may = true) (h : Calm d) (hn1 : 1 ≤ n) (hn2 : n ≤ 1073741824) (hc : cont d = rest n t) (hm : M.name = man n) (ht : t.length ≤ B) (hB : 2100 ≤ B) (hB2 : B ≤ 240000) (hq : 5 * B ≤ d.quota) :
    Calm (put d M e v).1 ∧ cont (put d M e v).1 = rest n (t ++ e.rec_) ∧ (put d M e v).1.quota = d.quota ∧ (put d M e v).2 = ({ M with count := M.count + 1, v := v }, 0) ∧ (put d M e v).1.load = d.load := by
  have hr := Ed.rec_len he
  have hct : cont d (man n) = some t := by rw [hc, rest, if_pos rfl]
  have hs : Small d [man n, kCur] B := ⟨fun s x hx => by
    rw [hc, rest] at hx
    split at hx
    · subst_vars; simp
    · split at hx
      · subst_vars; simp
      · exact absurd hx (by simp), fun s x hx => by
    rw [hc, rest] at hx
    split at hx
    · injection hx with hx; subst hx; exact ht
    · split at hx
      · injection hx with hx; subst hx; have := headB_len n; omega
      · cases hx⟩
  obtain ⟨_, l2⟩ := h.length_names hs
  simp only [List.length_cons, List.length_nil] at l2
  obtain ⟨a1, a2, a3, a4⟩ := h.append (man_named hn1 hn2) hct e.rec_ (by omega) (by omega)
  have hct2 : cont (d.append (man n) e.rec_).1 (man n) = some (t ++ e.rec_) := by rw [a3, upd, if_pos rfl]
  obtain ⟨b1, b2, b3, b4⟩ := a2.sync (man_named hn1 hn2) hct2
  have hsv : put d M e v = (((d.append (man n) e.rec_).1.sync (man n)).1, { M with count := M.count + 1, v := v }, 0) := by
    unfold put
    rw [hm, if_neg (by simp [a1]), if_neg (by simp [b1])]
  rw [hsv]
  refine ⟨b2, ?_, b4.trans a4, rfl, by rw [Sd.sync_load, Sd.append_load]⟩
  rw [b3, a3, hc]
  funext s
  unfold upd rest
  split <;> rfl
end Gw
end Go.Proofs.YthepokgkfaocmaaGreatDoor

/-
  What the laws of manifests of any View carry from call to call; Open of no disk.
-/
namespace Go.Proofs.YthepokgkfaocmaaGreatDoor
open Go Go.RowKit Go.Shelf

/-- A disk and its manifest, both made since W0. -/
structure GAt (P : Sl) (W0 w : World) (X : Dw) (S : Sd) (m : Nat) (M : Gs) : Prop where
  dm : Dm w X S
  man : GK w m X.d M P
  row : Vrow w X m P M.v.files
  away : m ∉ X.foot
  low : ∀ g ∈ X.foot, W0.heap.size ≤ g
  lowm : W0.heap.size ≤ m
  bel : Below W0.heap.size W0 w
variable {P P1 : Sl} {W0 w w1 w2 : World} {X X1 : Dw} {S S1 : Sd} {m m1 : Nat} {M M1 : Gs}
theorem GAt.mst (h : GAt P W0 w X S m M) (hn : NG ≤ W0.heap.size) : Gst P m X w S M w X := Gst.start h.dm h.man h.row h.away (Nat.le_trans hn h.lowm)
theorem GAt.below (h : GAt P W0 w X S m M) (hb : Below w.heap.size w w1) : GAt P W0 w1 X S m M := ⟨h.dm.below hb, h.man.below hb, h.row.below hb, h.away, h.low, h.lowm, h.bel.trans (hb.mono h.bel.size)⟩
theorem GAt.mst_left (h : GAt P W0 w X S m M) (k : Gst P1 m X w S1 M1 w1 X1) : GAt P1 W0 w1 X1 S1 m M1 :=
  ⟨k.acc.dm, by rw [k.acc.e]; exact k.man, k.row, k.away, fun g hg => by
    rcases k.acc.f g hg with h1 | h1
    · exact h.low g h1
    · exact Nat.le_trans h.bel.size h1, h.lowm, h.bel.trans (k.acc.c.under h.bel.size (fun g hg => by
    rcases List.mem_append.1 hg with h1 | h1
    · rw [List.mem_singleton.1 h1]; exact h.lowm
    · exact h.low g h1))⟩
theorem GAt.acc (h : GAt P W0 w X S m M) (k : Acc [] X w S1 w1 X1) : GAt P W0 w1 X1 S1 m M := by
  have hc : Chg X.foot w w1 := by simpa using k.c
  have ha : m ∉ X1.foot := fun hm => by
    rcases k.f m hm with h1 | h1
    · exact h.away h1
    · have := h.man.lt
      omega
  exact ⟨k.dm, by rw [k.e]; exact h.man.chg hc h.away, h.row.step hc k.f, ha, fun g hg => by
    rcases k.f g hg with h1 | h1
    · exact h.low g h1
    · exact Nat.le_trans h.bel.size h1, h.lowm, h.bel.trans (hc.under h.bel.size h.low)⟩
/-- Another manifest of the disk is opened: both are there. -/
theorem GAt.born (h : GAt P W0 w X S m M) (k : GBorn P1 X w S1 M1 m1 w1 X1) : GAt P1 W0 w1 X1 S1 m1 M1 ∧ GK w1 m X.d M P :=
  ⟨⟨k.dm, by rw [k.e]; exact k.man, k.row, k.away, fun g hg => by
    rcases k.f g hg with h1 | h1
    · exact h.low g h1
    · exact Nat.le_trans h.bel.size h1, Nat.le_trans h.bel.size k.new, h.bel.trans (k.c.under h.bel.size h.low)⟩, h.man.chg k.c h.away⟩
theorem gat_born (hl : ∀ g ∈ X.foot, W0.heap.size ≤ g) (hb : Below W0.heap.size W0 w) (k : GBorn P X w S1 M1 m1 w1 X1) : GAt P W0 w1 X1 S1 m1 M1 :=
  ⟨k.dm, by rw [k.e]; exact k.man, k.row, k.away, fun g hg => by
    rcases k.f g hg with h1 | h1
    · exact hl g h1
    · exact Nat.le_trans hb.size h1, Nat.le_trans hb.size k.new, hb.trans (k.c.under hb.size hl)⟩

set_option maxRecDepth 100000 in
theorem glook_nil (w : World) : Calls Tryz.prog 50 #[.pointer none] w fun e w' => e = .returned (.tuple #[.pointer none, .bool false, .int .i64 1]) ∧ w = w' := by
  go_enter Tryz.func50, Tryz.ntmps50
  go_wp2
  refine bodyPost_ret (v := .tuple #[.pointer none, .bool false, .int .i64 1]) (by simp [results, go_sem]) rfl ⟨rfl, rfl⟩
set_option maxRecDepth 100000 in
theorem gopen_nil (w : World) : Calls Tryz.prog 19 #[.pointer none] w fun e w' => e = .returned (.tuple #[.pointer none, .int .i64 1]) ∧ w = w' := by
  go_enter Tryz.func19, Tryz.ntmps19
  go_wp2_with fail
  refine (glook_nil w).mono ?_
  rintro e w1 ⟨rfl, rfl⟩
  go_wp2
  go_ret2
  exact ⟨rfl, rfl⟩
end Go.Proofs.YthepokgkfaocmaaGreatDoor
