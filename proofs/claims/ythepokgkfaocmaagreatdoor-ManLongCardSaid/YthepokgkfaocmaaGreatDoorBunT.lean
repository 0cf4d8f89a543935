/- Texts LawC, LawTorn, LawTornB in one. No conditions. -/
import Derived.Test.YthepokgkfaocmaaGreatDoorBunR

/-
  A manifest of a chain of changes, from call to call: Save, Open.
-/
namespace Go.Proofs.YthepokgkfaocmaaGreatDoor
open Go Go.RowKit Go.Shelf

theorem app_zero (e : Bv) : Bv.app Bv.zero e = e := by
  have h : ∀ a : Nat, orElse a 0 = a := fun a => by unfold orElse; split <;> simp_all
  cases e
  simp [Bv.app, Bv.zero, h]
theorem chain_one {e : Bv} (h : e.ok = true) : Chain [e] := Chain.one h (app_zero e)
theorem run_one (e : Bv) : Bv.run [e] = e := app_zero e

/-- A disk at rest with its manifest: the n-th man file holds the changes es. -/
structure Lst (W0 w : World) (X : Dw) (S : Sd) (m n : Nat) (es : List Bv) : Prop where
  at_ : At W0 w X S m ⟨Mw.man n, Bv.run es, es.length, false⟩
  calm : Calm S
  rest : cont S = Mw.rest n (text es)
  chain : Chain es
  quota : S.quota = 1048576
  n1 : 1 ≤ n
  n2 : n ≤ 1000000
  load : S.load ≤ 1000000000
  env0 : NG ≤ W0.heap.size
variable {W0 w w1 w2 : World} {X X1 : Dw} {S S1 : Sd} {m m1 n : Nat} {M : Ms} {es : List Bv}

theorem Lst.below (h : Lst W0 w X S m n es) (hb : Below w.heap.size w w1) : Lst W0 w1 X S m n es := { h with at_ := h.at_.below hb }
theorem man_len (n : Nat) : (Mw.man n).length ≤ 1000 := name_le n
theorem Lst.save (h : Lst W0 w X S m n es) (hel : es.length ≤ 200) (e : Bv) (he : e.may = true) (hok : ((Bv.run es).app e).ok = true) :
    Calls Tryz.prog 15 #[.pointer (some ⟨m, 0, none⟩), e.ed] w fun r w' => r = .returned (.int .i64 0) ∧ ∃ X' S', X'.d = X.d ∧ Lst W0 w' X' S' m n (es ++ [e]) ∧ S'.load = S.load := by
  have htl := text_len es
  obtain ⟨s1, s2, s3, s4, s5⟩ := Mw.save_rest (M := ⟨Mw.man n, Bv.run es, es.length, false⟩) (n := n) (B := 100000) (t := text es) (e := e) h.calm h.n1 (by have := h.n2; omega) h.rest rfl rfl (by omega) (by omega) (by omega) (by have := h.quota; omega)
  have hsv := save_any e he hok (show es.length ≤ 1000000000 by omega) (man_len n) (h.at_.mst h.env0)
  refine hsv.mono ?_
  rintro r w' ⟨rfl, X', h3⟩
  have hat := h.at_.mst_left h3
  have hxd := h3.acc.e
  generalize Mw.save S ⟨Mw.man n, Bv.run es, es.length, false⟩ e = P at *
  obtain ⟨S2, M2, er⟩ := P
  simp only at s1 s2 s3 s4 s5 hat
  injection s4 with s4 s6
  subst s4 s6
  refine ⟨rfl, X', S2, hxd, ⟨?_, s1, by rw [s2, text_snoc], h.chain.snoc he hok, s3.trans h.quota, h.n1, h.n2, by have := h.load; omega, h.env0⟩, s5⟩
  rw [Bv.run_snoc, List.length_append]
  exact hat
theorem greatest_rest {d : Sd} {t : List UInt8} (h : Calm d) (hn1 : 1 ≤ n) (hn2 : n ≤ 1073741824) (hc : cont d = Mw.rest n t) : Mn.greatest d.list Mn.kMan = n := by
  have key : ∀ (l : List (List UInt8)) (a : Int), (∀ s ∈ l, (Mn.number s Mn.kMan).getD 0 = 0 ∨ (Mn.number s Mn.kMan).getD 0 = (n : Int)) → (a = 0 ∨ a = (n : Int)) → (a = (n : Int) ∨ ∃ s ∈ l, (Mn.number s Mn.kMan).getD 0 = (n : Int)) → l.foldl (fun m s => max m ((Mn.number s Mn.kMan).getD 0)) a = (n : Int) := by
    intro l
    induction l with
    | nil =>
      intro a _ h2 h3
      rcases h3 with h3 | ⟨s, hs, _⟩
      · simpa using h3
      · cases hs
    | cons s r ih =>
      intro a h1 h2 h3
      simp only [List.foldl_cons]
      have hs := h1 s (by simp)
      refine ih _ (fun x hx => h1 x (by simp [hx])) (by rcases h2 with h2 | h2 <;> rcases hs with hs | hs <;> rw [h2, hs] <;> omega) ?_
      rcases h3 with h3 | ⟨x, hx, h3⟩
      · left; rw [h3]; rcases hs with hs | hs <;> rw [hs] <;> omega
      · rcases List.mem_cons.1 hx with rfl | hx
        · left; rw [h3]; rcases h2 with h2 | h2 <;> rw [h2] <;> omega
        · exact .inr ⟨x, hx, h3⟩
  refine key d.list 0 (fun s hs => ?_) (.inl rfl) (.inr ⟨Mw.man n, h.mem_list.2 ⟨t, by rw [hc, Mw.rest, if_pos rfl]⟩, by rw [Mw.number_man hn1 hn2]; rfl⟩)
  obtain ⟨x, hx⟩ := h.mem_list.1 hs
  rw [hc, Mw.rest] at hx
  split at hx
  · right; subst_vars; rw [Mw.number_man hn1 hn2]; rfl
  · split at hx
    · left; subst_vars; rw [Mw.number_cur]; rfl
    · cases hx
/-- What an Open of a disk at rest gives, whose man file has the text t. -/
theorem rewriteM_rest {d : Sd} {M : Ms} {t : List UInt8} (h : Calm d) (hn1 : 1 ≤ n) (hn2 : n ≤ 1000000) (hc : cont d = Mw.rest n t) (ht : t.length ≤ 100000) (hq : d.quota = 1048576) (hbr : M.broken = false) :
    Calm (Mw.rewriteM d M).1 ∧ cont (Mw.rewriteM d M).1 = Mw.rest (n + 1) (Mw.recB M.v) ∧ (Mw.rewriteM d M).1.quota = d.quota ∧ (Mw.rewriteM d M).2 = ({ M with name := Mw.man (n + 1), count := 1 }, 0) ∧ (Mw.rewriteM d M).1.load ≤ d.load + 70 := by
  have hg := greatest_rest h hn1 (by omega) hc
  have e : Mw.rewriteM d M = Mw.rewrite d M (Mw.man (n + 1)) := by
    unfold Mw.rewriteM
    rw [if_neg (by simp [hbr]), hg, if_neg (by omega)]
    rfl
  rw [e]
  obtain ⟨a1, a2, a3, a4⟩ := Mw.rewrite_rest (M := M) (n := n) (k := n + 1) (B := 100000) h (by omega) (by omega) hn1 (by omega) (by omega) hc ht (by omega) (by omega)
  exact ⟨a1, a2, a3, a4, Mw.rewrite_load h.wf M _⟩
/-- Open, of a disk at rest, whose man file may have a torn end. -/
theorem open_at (h : At W0 w X S m M) (hc : Calm S) {tl : List UInt8} (hr : cont S = Mw.rest n (text es ++ tl)) (hch : Chain es) (hq : S.quota = 1048576) (n1 : 1 ≤ n) (n2 : n + 1 ≤ 1000000) (hld : S.load + 70 ≤ 1000000000) (he0 : NG ≤ W0.heap.size) (hel : es.length ≤ 200) (htl : tl.length ≤ 1000) (er : Nat) (her : er = 0 ∨ er = 4)
    (hs : Fr.split (text es ++ tl) = (List.replicate es.length 6, es.map Bv.bytes, (text es).length, er)) :
    Calls Tryz.prog 19 #[.pointer (some ⟨X.d, 0, none⟩)] w fun r w' => ∃ m' X' S' n' es', r = .returned (.tuple #[.pointer (some ⟨m', 0, none⟩), .int .i64 0]) ∧ X'.d = X.d ∧ Lst W0 w' X' S' m' n' es' ∧ Bv.run es' = Bv.run es ∧ es'.length ≤ 30 ∧ n' ≤ n + 1 ∧ S'.load ≤ S.load + 70 ∧ es'.length ≤ es.length := by
  have hcur : S.read Mw.kCur = (Mw.headB n, 0) := hc.read Mw.cur_named (by rw [hr, Mw.rest, if_neg (Mw.man_cur n1 (by omega)).symm, if_pos rfl])
  have hmn : S.read (Mn.name Mn.kMan n) = (text es ++ tl, 0) := hc.read (Mw.man_named n1 (by omega)) (by rw [hr]; exact if_pos rfl)
  have htx := text_len es
  have hlen : (text es ++ tl).length = (text es).length + tl.length := List.length_append
  have hop := open_any n n1 (by omega) (text es ++ tl) es (text es).length er hcur hmn (by omega) hs her hch.pos (by omega) hch.may hch.ok (by omega) h.dm (by omega)
  cases hmust : (decide ((text es).length < (text es ++ tl).length) || decide (30 < es.length)) with
  | true =>
    rw [hmust] at hop
    obtain ⟨a1, a2, a3, a4, a5⟩ := rewriteM_rest (M := ⟨Mw.man n, Bv.run es, es.length, false⟩) hc n1 (by omega) hr (by omega) hq rfl
    refine (hop _ (if_pos rfl).symm (congrArg Prod.snd a4)).mono ?_
    rintro r w' ⟨m', X', rfl, hb⟩
    have hb' : Born X w (Mw.rewriteM S ⟨Mw.man n, Bv.run es, es.length, false⟩).1 (Mw.rewriteM S ⟨Mw.man n, Bv.run es, es.length, false⟩).2.1 m' w' X' := hb
    have ha := at_born h.low h.bel hb'
    rw [a4] at ha
    refine ⟨m', X', _, n + 1, [Bv.run es], rfl, hb'.e, ⟨?_, a1, by rw [text_one]; exact a2, chain_one hch.run_ok, a3.trans hq, by omega, n2, by omega, he0⟩, run_one _, by simp, Nat.le_refl _, a5, hch.pos⟩
    rw [run_one]
    exact ha
  | false =>
    rw [hmust] at hop
    simp only [Bool.or_eq_false_iff, decide_eq_false_iff_not] at hmust
    obtain ⟨h1, h2⟩ := hmust
    have ht0 : tl = [] := List.eq_nil_of_length_eq_zero (by omega)
    subst ht0
    refine (hop _ (if_neg (by simp)).symm rfl).mono ?_
    rintro r w' ⟨m', X', rfl, hb⟩
    have ha := at_born h.low h.bel hb
    exact ⟨m', X', _, n, es, rfl, hb.e, ⟨ha, hc, by rw [hr, List.append_nil], hch, hq, n1, by omega, show S.load ≤ 1000000000 by omega, he0⟩, rfl, by omega, by omega, show S.load ≤ S.load + 70 by omega, Nat.le_refl _⟩
/-- Open, of a disk at rest. -/
theorem Lst.open_ (h : Lst W0 w X S m n es) (hel : es.length ≤ 200) (n2 : n + 1 ≤ 1000000) (hld : S.load + 70 ≤ 1000000000) :
    Calls Tryz.prog 19 #[.pointer (some ⟨X.d, 0, none⟩)] w fun r w' => ∃ m' X' S' n' es', r = .returned (.tuple #[.pointer (some ⟨m', 0, none⟩), .int .i64 0]) ∧ X'.d = X.d ∧ Lst W0 w' X' S' m' n' es' ∧ Bv.run es' = Bv.run es ∧ es'.length ≤ 30 ∧ n' ≤ n + 1 ∧ S'.load ≤ S.load + 70 ∧ es'.length ≤ es.length :=
  open_at h.at_ h.calm (tl := []) (by rw [List.append_nil]; exact h.rest) h.chain h.quota h.n1 n2 hld h.env0 hel (by simp) 0 (.inl rfl) (by rw [List.append_nil]; exact text_split es)
/-- Read, of the man file. -/
theorem Lst.rd (h : Lst W0 w X S m n es) :
    Calls Tryz.prog 13 #[.pointer (some ⟨X.d, 0, none⟩), .string (str (Mw.man n))] w fun r w' => ∃ A c, r = .returned (.tuple #[.slice A (text es).length c, .int .i64 0]) ∧
      w'.ownsRow w.heap.size 5 1 (.slice A (text es).length c) (text es).length (bts (text es)) ∧ Below w.heap.size w w' := by
  have hmn : S.read (Mw.man n) = (text es, 0) := h.calm.read (Mw.man_named h.n1 (by have := h.n2; omega)) (by rw [h.rest]; exact if_pos rfl)
  have := read_any X S (str (Mw.man n)) (by rw [str_size]; have := man_len n; unfold maxLen; omega) h.calm.wf w h.at_.dm.dk
  rw [list_str, hmn] at this
  exact this
end Go.Proofs.YthepokgkfaocmaaGreatDoor

/-
  The walk of ManTorn.
-/
namespace Go.Proofs.YthepokgkfaocmaaGreatDoor
open Go Go.RowKit Go.Shelf

def fl (k : Nat) : Bv := ⟨1, k, 0, 0, 0⟩
theorem fl_app (i k : Nat) (hk : 1 ≤ k) : (fl i).app (eF k) = fl k := by
  unfold fl eF Bv.app orElse
  simp
  omega
theorem fl_ok (k : Nat) (hk : k ≤ 1000) : (fl k).ok = true := by
  rw [Bv.ok_iff]
  refine ⟨Nat.le_refl 1, (by decide : 1 ≤ 1073741824), ?_⟩
  simp [bigs, fl]
  omega
theorem eF_may (k : Nat) (hk : k ≤ 1000) : (eF k).may = true := by
  rw [Bv.may_iff]
  refine ⟨(by decide : 0 ≤ 1073741824), ?_⟩
  simp [bigs, eF]
  omega
/-- A disk with a first manifest. -/
theorem Lst.start {w w1 w2 : World} {X X2 : Dw} {m : Nat} (he : Env w) (hb1 : Below w.heap.size w w1) (hfo : ∀ g ∈ X.foot, w.heap.size ≤ g)
    (hbn : Born X w1 (Mw.rewrite (Sd.new 1048576) ⟨[], v1, 0, false⟩ (Mw.man 1)).1 (Mw.rewrite (Sd.new 1048576) ⟨[], v1, 0, false⟩ (Mw.man 1)).2.1 m w2 X2) : ∃ S, Lst w w2 X2 S m 1 [v1] ∧ S.load ≤ 70 := by
  have hcalm := Calm.new 1048576 (by omega)
  obtain ⟨n1, n2, n3, n4⟩ := Mw.rewrite_new (M := ⟨[], v1, 0, false⟩) (k := 1) hcalm (by omega) (by omega) (Calm.cont_new _) (by decide)
  have hld := Mw.rewrite_load (Sd.new_wf 1048576 (by omega)) ⟨[], v1, 0, false⟩ (Mw.man 1)
  rw [show (Sd.new 1048576).load = 0 from rfl] at hld
  have ha := at_born hfo hb1 hbn
  rw [n4] at ha
  exact ⟨_, ⟨ha, n1, by rw [text_one]; exact n2, v1_chain, n3, by omega, by omega, by omega, he.base⟩, by omega⟩
theorem new_eq : (Mw.rewrite (Sd.new 1048576) ⟨[], v1, 0, false⟩ (Mw.man 1)).2.2 = 0 := by
  obtain ⟨n1, n2, n3, n4⟩ := Mw.rewrite_new (M := ⟨[], v1, 0, false⟩) (k := 1) (Calm.new 1048576 (by omega)) (by omega) (by omega) (Calm.cont_new _) (by decide)
  rw [n4]
/-- What the loop of ManTorn keeps. -/
def TornI (i size : Nat) (es : List Bv) : Prop := es.length = i + 1 ∧ Bv.run es = fl i ∧ (i = 0 ∨ ∃ es0, es = es0 ++ [eF i] ∧ size = (text es0).length ∧ Chain es0 ∧ Bv.run es0 = fl (i - 1))
theorem TornI.start : TornI 0 0 [v1] := ⟨rfl, rfl, .inl rfl⟩
theorem TornI.next {i size : Nat} {es : List Bv} (h : TornI i size es) (hc : Chain es) : TornI (i + 1) (text es).length (es ++ [eF (i + 1)]) :=
  ⟨by rw [List.length_append, h.1]; rfl, by rw [Bv.run_snoc, h.2.1, fl_app _ _ (by omega)], .inr ⟨es, rfl, rfl, hc, h.2.1⟩⟩
/-- The file is cut, and written anew. -/
theorem cut_rest {S : Sd} {n : Nat} {t : List UInt8} (h : Calm S) (h1 : 1 ≤ n) (h2 : n ≤ 1000000) (hr : cont S = Mw.rest n t) (b : List UInt8) (hb : b.length ≤ 10000) (hq : S.quota = 1048576) :
    (S.remove (Mw.man n)).2 = 0 ∧ ((S.remove (Mw.man n)).1.create (Mw.man n)).2 = 0 ∧ (((S.remove (Mw.man n)).1.create (Mw.man n)).1.append (Mw.man n) b).2 = 0 ∧
    Calm (((S.remove (Mw.man n)).1.create (Mw.man n)).1.append (Mw.man n) b).1 ∧ cont (((S.remove (Mw.man n)).1.create (Mw.man n)).1.append (Mw.man n) b).1 = Mw.rest n b ∧ (((S.remove (Mw.man n)).1.create (Mw.man n)).1.append (Mw.man n) b).1.quota = 1048576 ∧
    (((S.remove (Mw.man n)).1.create (Mw.man n)).1.append (Mw.man n) b).1.load ≤ S.load + 10 := by
  have hct : cont S (Mw.man n) = some t := by rw [hr, Mw.rest, if_pos rfl]
  obtain ⟨a1, a2, a3, a4⟩ := h.remove (Mw.man_named h1 (by omega)) hct
  have hsm : ∀ f : List UInt8 → Option (List UInt8), (∀ s x, f s = some x → (s = Mw.man n ∧ x = []) ∨ (s = Mw.kCur ∧ x = Mw.headB n)) → ∀ d : Sd, cont d = f → Small d [Mw.man n, Mw.kCur] 10000 := fun f hf d hd => ⟨fun s x hx => by
    rw [hd] at hx
    rcases hf s x hx with ⟨rfl, _⟩ | ⟨rfl, _⟩ <;> simp, fun s x hx => by
    rw [hd] at hx
    have := headB_len n
    rcases hf s x hx with ⟨_, rfl⟩ | ⟨_, rfl⟩
    · simp
    · omega⟩
  have e3 : ∀ s x, cont (S.remove (Mw.man n)).1 s = some x → (s = Mw.man n ∧ x = []) ∨ (s = Mw.kCur ∧ x = Mw.headB n) := fun s x hx => by
    rw [a3, hr] at hx
    unfold upd Mw.rest at hx
    split at hx
    · cases hx
    · split at hx
      · injection hx with hx; exact .inr ⟨‹_›, hx.symm⟩
      · cases hx
  have hld1 := Sd.remove_load S (Mw.man n)
  generalize S.remove (Mw.man n) = P1 at *
  obtain ⟨S1, r1⟩ := P1
  simp only at a1 a2 a3 a4 e3 hld1 ⊢
  obtain ⟨l1, l2⟩ := a2.length_names (hsm _ e3 S1 rfl)
  simp only [List.length_cons, List.length_nil] at l1 l2
  obtain ⟨b1, b2, b3, b4⟩ := a2.create (Mw.man_named h1 (by omega)) (by rw [a3, upd, if_pos rfl]) (by omega)
  have hld2 := Sd.create_load S1 (Mw.man n)
  have e4 : ∀ s x, cont (S1.create (Mw.man n)).1 s = some x → (s = Mw.man n ∧ x = []) ∨ (s = Mw.kCur ∧ x = Mw.headB n) := fun s x hx => by
    rw [b3] at hx
    unfold upd at hx
    split at hx
    · injection hx with hx; exact .inl ⟨‹_›, hx.symm⟩
    · exact e3 s x hx
  generalize S1.create (Mw.man n) = P2 at *
  obtain ⟨S2, r2⟩ := P2
  simp only at b1 b2 b3 b4 e4 hld2 ⊢
  obtain ⟨m1, m2⟩ := b2.length_names (hsm _ e4 S2 rfl)
  simp only [List.length_cons, List.length_nil] at m1 m2
  obtain ⟨c1, c2, c3, c4⟩ := b2.append (Mw.man_named h1 (by omega)) (x := []) (by rw [b3, upd, if_pos rfl]) b (by simp; omega) (by rw [b4, a4, hq]; omega)
  refine ⟨a1, b1, c1, c2, ?_, by rw [c4, b4, a4, hq], by rw [Sd.append_load]; omega⟩
  rw [c3, b3, a3, hr]
  funext s
  unfold upd Mw.rest
  split <;> rfl
end Go.Proofs.YthepokgkfaocmaaGreatDoor

/-
  The walk of ManTorn, to its end.
-/
namespace Go.Proofs.YthepokgkfaocmaaGreatDoor
open Go Go.RowKit Go.Shelf

theorem fl_vw (k : Nat) : (fl k).vw = .agg #[.int .i64 1, .slice none 0 0, .int .u64 (k : Int), .int .u64 0, .int .u64 0, .int .u64 0] := rfl
theorem torn_split {es : List Bv} (_hc : Chain es) (e : Bv) (p : Nat) (hp : p < (Mw.recB e).length) :
    ∃ er, (er = 0 ∨ er = 4) ∧ Fr.split (text es ++ (Mw.recB e).take p) = (List.replicate es.length 6, es.map Bv.bytes, (text es).length, er) := by
  rcases Nat.eq_zero_or_pos p with rfl | hp0
  · exact ⟨0, .inl rfl, by rw [List.take_zero, List.append_nil]; exact text_split es⟩
  · refine ⟨4, .inr rfl, ?_⟩
    have := Fr.split_cut 6 (by decide) (by decide) (es.map Bv.bytes) (fun b hb => by
      obtain ⟨x, _, rfl⟩ := List.mem_map.1 hb
      exact bytes_len x) e.bytes (bytes_len e) p hp0 hp
    simpa [text, Mw.recB] using this
set_option maxRecDepth 100000 in
set_option maxHeartbeats 4000000 in
theorem manTorn_walk (n cut : Int) (w : World) (he : Env w) :
    Calls Tryz.prog 3 #[.int .i64 n, .int .i64 cut] w fun e w' => e = .returned (.bool true) ∧ Below w.heap.size w w' := by
  obtain ⟨mn, hmn, hmn1⟩ := and_mask n 8 (by omega)
  have hmn' : bits .and .i64 n 255 = (mn : Int) := hmn
  obtain ⟨mc, hmc, hmc1⟩ := and_mask cut 8 (by omega)
  have hmc' : bits .and .i64 cut 255 = (mc : Int) := hmc
  obtain ⟨q, hq, hq1⟩ : ∃ q : Nat, (mn : Int) % 20 = (q : Int) ∧ q < 20 := ⟨mn % 20, by omega, by omega⟩
  have HMC := Lib.hid hmc'
  clear hmn hmc hmc'
  have hdn := dnew_any 1048576 w
  go_enter Tryz.func3, Tryz.ntmps3
  go_wp2_with fail
  refine hdn.mono ?_
  rintro e w1 ⟨X, rfl, hdk, hb1, hfo⟩
  have hdm := dm_new (by omega) he hdk hb1 hfo
  have hnew := mnew_any v1 (by decide) (by decide) hdm _ rfl new_eq
  rw [v1_vw] at hnew
  have HFO := Lib.hid hfo
  have HNEW := Lib.hid hnew
  clear hdn hdk hnew hfo
  go_wp2_with fail
  refine HNEW.out.mono ?_
  rintro e w2 ⟨m, X2, rfl, hbn⟩
  obtain ⟨S0, hL0, hld0⟩ := Lst.start he hb1 HFO.out hbn
  have hx2 := hbn.e
  have hm0 := hL0.at_.man.lt
  clear hbn HNEW HFO hdm
  generalize X.d = d0 at *
  go_wp2_with fail
  simp only [hq]
  go_loopw [8, 9] (fun sz i wr => ∃ (k size : Nat) (es : List Bv) (X' : Dw) (S' : Sd), k ≤ q + 1 ∧ sz = .int .i64 (size : Int) ∧ i = .int .i64 (k : Int) ∧ X'.d = d0 ∧ Lst w wr X' S' m 1 es ∧ S'.load ≤ 70 ∧ Hid (TornI k size es)) (fun _ i _ => q + 1 - (intOf i).toNat)
  case atStart => exact ⟨0, 0, [v1], X2, S0, by omega, rfl, rfl, hx2, hL0, hld0, Lib.hid TornI.start⟩
  case round =>
    obtain ⟨k, size, es, X', S', hk, rfl, rfl, hxd, hL, hld, hI⟩ := hrel
    clear hL0 hld0 hx2 hb1
    have hel : es.length ≤ 30 := by have := hI.out.1; omega
    have hnm := mname_any X'.d hL.at_.man
    have hrd := hL.rd
    rw [hxd] at hrd
    by_cases hlt : k < q + 1
    · have hlt' : (k : Int) < (q : Int) + 1 := by omega
      go_wp2_with fail
      refine hnm.mono ?_
      rintro e w3 ⟨rfl, rfl⟩
      clear hnm
      go_wp2_with fail
      refine hrd.mono ?_
      rintro e w4 ⟨A, c, rfl, -, hb4⟩
      have hL4 := hL.below hb4
      have hsv := hL4.save (by omega) (eF (k + 1)) (eF_may _ (by omega)) (by rw [hI.out.2.1, fl_app _ _ (by omega)]; exact fl_ok _ (by omega))
      rw [eF_ed, show ((k + 1 : Nat) : Int) = (k : Int) + 1 from rfl] at hsv
      have HSV := Lib.hid hsv
      have hkw : IntKind.u64.wrap (k : Int) = (k : Int) := by rw [IntKind.wrap_u64]; omega
      clear hrd hsv
      go_wp2_with fail
      refine HSV.out.mono ?_
      rintro e w5 ⟨rfl, X5, S5, hx5, hL5, hld5⟩
      have hx5' := hx5.trans hxd
      have hld5' : S5.load ≤ 70 := by omega
      have hbz := hL5.at_.bel
      clear HSV hx5 hld5 hxd hkw
      go_wp2
      go_roundw
      case rel => exact ⟨k + 1, (text es).length, es ++ [eF (k + 1)], X5, S5, by omega, rfl, by go_num, hx5', hL5, hld5', Lib.hid (hI.out.next hL.chain)⟩
      case measure => simp [intOf]; omega
    · obtain rfl : k = q + 1 := by omega
      rcases hI.out.2.2 with h0 | ⟨es0, hes, hsz, hch0, hrun0⟩
      · omega
      have hrl : (Mw.recB (eF (q + 1))).length ≤ 200 := recB_len _
      have hrl0 : 1 ≤ (Mw.recB (eF (q + 1))).length := by unfold Mw.recB; rw [Fr.put_length]; omega
      have htx : text es = text es0 ++ Mw.recB (eF (q + 1)) := by rw [hes, text_snoc]
      have htl : (text es).length = size + (Mw.recB (eF (q + 1))).length := by rw [htx, List.length_append, hsz]
      have htl0 := text_len es0
      have hel0 : es0.length ≤ 30 := by rw [hes, List.length_append] at hel; simp at hel; omega
      obtain ⟨rl, hrlE⟩ : ∃ rl, rl = (Mw.recB (eF (q + 1))).length := ⟨_, rfl⟩
      rw [← hrlE] at hrl hrl0 htl
      rw [htl] at hrd
      have HTX := Lib.hid htx
      have HRL := Lib.hid hrlE
      have HSZ := Lib.hid hsz
      have HRUN := Lib.hid hrun0
      have hsz6 : size ≤ 6000 := by omega
      obtain ⟨p, hp, hp1⟩ : ∃ p : Nat, (mc : Int) % (rl : Int) = (p : Int) ∧ p < rl := ⟨mc % rl, by simp, Nat.mod_lt _ (by omega)⟩
      clear htx hrlE hsz hrun0 hes hmn' hq hI
      clear htl htl0
      go_wp2_with fail
      refine hnm.mono ?_
      rintro e w3 ⟨rfl, rfl⟩
      clear hnm
      go_wp2_with fail
      refine hrd.mono ?_
      rintro e w4 ⟨A, c, rfl, hown, hb4⟩
      have hL4 := hL.below hb4
      clear hrd
      obtain ⟨_, _, hsl, hnc, hcm, hbs⟩ := own_form hown
      injection hsl with hsl1 hsl2 hsl3
      subst hsl1 hsl3
      clear hsl2
      have hle : size + p ≤ c := by omega
      have hAf : ∀ a, A = some a → a.block ∉ X'.foot := fun a e h => by
        have h1 := hL.at_.dm.dk.lt _ h
        have h2 := (hbs a e).1
        omega
      obtain ⟨bb, hbb⟩ : ∃ bb, bb = (text es).take (size + p) := ⟨_, rfl⟩
      have hbbl : bb.length ≤ 10000 := by rw [hbb, List.length_take]; omega
      have hrow4 : Row w4.heap.size w4 A (size + p) 1 (bts bb) := by
        have h := (Row.own hown).pre (m := size + p) (by omega)
        rwa [Nat.mul_one, ← bts_take, ← hbb] at h
      obtain ⟨r1, r2, r3, r4, r5, r6, r7⟩ := cut_rest hL.calm (by omega) (by omega) hL.rest bb hbbl hL.quota
      have acc4 := Acc.start (F := []) hL4.at_.dm
      have hms : (str (Mw.man 1)).size ≤ maxLen := by rw [str_size]; have := man_len 1; unfold maxLen; omega
      have hrm := acc4.remove (str (Mw.man 1)) hms (by have := hld; omega)
      rw [list_str, r1, hxd, show ((0 : Nat) : Int) = 0 from rfl] at hrm
      have hl1 := Sd.remove_load S' (Mw.man 1)
      obtain ⟨S1, hS1⟩ : ∃ S1, S1 = (S'.remove (Mw.man 1)).1 := ⟨_, rfl⟩
      rw [← hS1] at hrm r2 r3 r4 r5 r6 r7 hl1
      have hl2 := Sd.create_load S1 (Mw.man 1)
      obtain ⟨S2, hS2⟩ : ∃ S2, S2 = (S1.create (Mw.man 1)).1 := ⟨_, rfl⟩
      rw [← hS2] at r3 r4 r5 r6 r7 hl2
      obtain ⟨S3, hS3⟩ : ∃ S3, S3 = (S2.append (Mw.man 1) bb).1 := ⟨_, rfl⟩
      rw [← hS3] at r4 r5 r6 r7
      have HRM := Lib.hid hrm
      have HBB := Lib.hid hbb
      have HXD := Lib.hid hxd
      have HR2 := Lib.hid r2
      have HR3 := Lib.hid r3
      have HR5 := Lib.hid r5
      have HR6 := Lib.hid r6
      have HS2 := Lib.hid hS2
      have HS3 := Lib.hid hS3
      have hlez : ¬ ((size : Int) + (rl : Int) ≤ (size : Int)) := by omega
      have hlen0 : (0 : Int) < (rl : Int) := by omega
      clear hrm hown hnc hbb hS1 hS3 hxd r1 r2 r3 r5 r6 hS2
      go_wp2_with fail
      refine HRM.out.mono ?_
      rintro e w5 ⟨rfl, X5, acc5⟩
      have hcr := acc5.create (str (Mw.man 1)) hms (by omega)
      rw [list_str, HR2.out, ← HS2.out, HXD.out, show ((0 : Nat) : Int) = 0 from rfl] at hcr
      have HCR := Lib.hid hcr
      clear hcr HRM
      go_wp2_with fail
      refine HCR.out.mono ?_
      rintro e w6 ⟨rfl, X6, acc6⟩
      have hrow6 := (acc6.c.row hrow4 (Nat.le_refl _) (fun a ha => by simpa using hAf a ha)).up acc6.c.size
      have hap := acc6.append (str (Mw.man 1)) hms A (size + p) (c : Nat) bb (by omega) hrow6 (fun a ha h => by
        rcases acc6.f _ h with h1 | h1
        · exact hAf a ha h1
        · have := (hbs a ha).2.1
          omega)
      rw [list_str, HR3.out, ← HS3.out, HXD.out, show ((0 : Nat) : Int) = 0 from rfl] at hap
      have HAP := Lib.hid hap
      have hmc' := HMC.out
      have hsub : (size : Int) + (rl : Int) - (size : Int) = (rl : Int) := by omega
      clear hap HCR acc5
      go_wp2_with fail
      refine HAP.out.mono ?_
      rintro e w7 ⟨rfl, X7, acc7⟩
      have hat7 := hL4.at_.acc acc7
      have hbt : bb = text es0 ++ (Mw.recB (eF (q + 1))).take p := by
        rw [HBB.out, HTX.out, List.take_append, HSZ.out, List.take_of_length_le (by omega), show (text es0).length + p - (text es0).length = p by omega]
      obtain ⟨er, her, hspl⟩ := torn_split hch0 (eF (q + 1)) p (by rw [← HRL.out]; exact hp1)
      have hop := open_at hat7 r4 (HR5.out.trans (by rw [hbt])) hch0 HR6.out (Nat.le_refl _) (by omega) (by omega) he.base (by omega) (by rw [List.length_take]; omega) er her hspl
      rw [acc7.e, HXD.out] at hop
      have HOP := Lib.hid hop
      clear hop hspl hbt HAP acc6 hrow6 hrow4 acc4 hmc' hsub her hat7
      clear hAf hbs HBB HR2 HR3 HR5 HR6 HS2 HS3 HTX HRL HSZ HMC hL hL4 hb4 acc7
      go_wp2_with fail
      refine HOP.out.mono ?_
      rintro e w8 ⟨m8, X8, S8, n8, es8, rfl, hx8, hL8, hrun8, hel8, hn8, hld8, -⟩
      have hru : Bv.run es8 = fl q := hrun8.trans HRUN.out
      have hvw := mview_any X8.d hL8.at_.man
      have hvv : (⟨Mw.man n8, Bv.run es8, es8.length, false⟩ : Ms).v.vw = .agg #[.int .i64 1, .slice none 0 0, .int .u64 (q : Int), .int .u64 0, .int .u64 0, .int .u64 0] := by
        show (Bv.run es8).vw = _
        rw [hru, fl_vw]
      rw [hvv] at hvw
      have HVW := Lib.hid hvw
      have HRU := Lib.hid hru
      have hfd := vw_floor 1 (q : Int) 0 0 0
      have hlg := vw_log 1 (q : Int) 0 0 0
      have hqw : IntKind.u64.wrap ((q : Int) + 1) = (q : Int) + 1 := by rw [IntKind.wrap_u64]; omega
      clear hvw hru hrun8 hvv HOP
      go_wp2_with fail
      refine HVW.out.mono ?_
      rintro e w9 ⟨rfl, hb9⟩
      have hL9 := hL8.below hb9
      have hqs : IntKind.u64.wrap ((q : Int) + 1 - 1) = (q : Int) := by rw [IntKind.wrap_u64]; omega
      have view : ∀ (W : World) (X : Dw) (S : Sd) (es : List Bv) (k : Nat), Lst w W X S m8 n8 es → Bv.run es = fl k → Calls Tryz.prog 20 #[.pointer (some ⟨m8, 0, none⟩)] W fun e w' => e = .returned (.agg #[.int .i64 1, .slice none 0 0, .int .u64 (k : Int), .int .u64 0, .int .u64 0, .int .u64 0]) ∧ Below W.heap.size W w' := by
        intro W X S es k hL hr
        have hv := mview_any X.d hL.at_.man
        have hvv : (⟨Mw.man n8, Bv.run es, es.length, false⟩ : Ms).v.vw = .agg #[.int .i64 1, .slice none 0 0, .int .u64 (k : Int), .int .u64 0, .int .u64 0, .int .u64 0] := by
          show (Bv.run es).vw = _
          rw [hr, fl_vw]
        rwa [hvv] at hv
      have VIEW := Lib.hid view
      have hv9 := view w9 X8 S8 es8 q hL9 HRU.out
      clear view HVW hb9 hL8
      go_wp2_with fail
      refine hv9.mono ?_
      rintro e w10 ⟨rfl, hb10⟩
      have hL10 := hL9.below hb10
      have hsv := hL10.save (by omega) (eF 77) (eF_may _ (by omega)) (by rw [HRU.out, fl_app _ _ (by omega)]; exact fl_ok _ (by omega))
      rw [eF_ed, show ((77 : Nat) : Int) = 77 from rfl] at hsv
      have HSV := Lib.hid hsv
      clear hv9 hb10 hL9 hsv hfd hqs hqw
      go_wp2_with fail
      refine HSV.out.mono ?_
      rintro e w11 ⟨rfl, X11, S11, hx11, hL11, -⟩
      have hv11 := VIEW.out w11 X11 S11 _ 77 hL11 (by rw [Bv.run_snoc, HRU.out, fl_app _ _ (by omega)])
      rw [show ((77 : Nat) : Int) = 77 from rfl] at hv11
      have hfd := vw_floor 1 77 0 0 0
      clear HSV VIEW HRU hlg
      go_wp2_with fail
      refine hv11.mono ?_
      rintro e w12 ⟨rfl, hb12⟩
      have hL12 := hL11.below hb12
      have haw := awake_any w12 hL12.at_.dm.env
      have hbf := hL12.at_.bel
      clear hv11 hb12 hL11 hL12 hL10
      go_wp2_with fail
      refine haw.mono ?_
      rintro e w13 ⟨rfl, hb13⟩
      have hbz := later_ hbf hb13
      clear haw hfd
      go_wp2
      go_ret
      exact ⟨rfl, hbz⟩
end Go.Proofs.YthepokgkfaocmaaGreatDoor
