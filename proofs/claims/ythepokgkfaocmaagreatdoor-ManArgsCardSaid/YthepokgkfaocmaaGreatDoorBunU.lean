/- Texts PlainView, EditG, EditH in one. No conditions. -/
import Derived.Test.YthepokgkfaocmaaGreatDoorBunB
import Derived.Test.YthepokgkfaocmaaGreatDoorBunC

/-
  A change's bytes read again, and the View that a text of changes makes, in plain Lean: for any bytes.
-/
namespace Go.Proofs.YthepokgkfaocmaaGreatDoor

namespace Pn
theorem unlistF_put (ns : List Nat) (a r : List UInt8) (out : List Nat) (hns : ∀ n ∈ ns, n < 2 ^ 64) : unlistF ns.length a.length (a ++ (ns.flatMap put ++ r)) out = (out ++ ns, a.length + (ns.flatMap put).length, 0) := by
  induction ns generalizing a out with
  | nil => simp [unlistF]
  | cons n ns ih =>
    have e : a ++ ((n :: ns).flatMap put ++ r) = a ++ (put n ++ (ns.flatMap put ++ r)) := by simp
    rw [e, List.length_cons, unlistF, List.drop_left, take_put n _ (hns n (by simp))]
    simp only
    have e2 : a ++ (put n ++ (ns.flatMap put ++ r)) = (a ++ put n) ++ (ns.flatMap put ++ r) := by simp
    rw [e2, show a.length + (put n).length = (a ++ put n).length by simp, ih (a ++ put n) (out ++ [n]) (fun x hx => hns x (by simp [hx]))]
    simp [Nat.add_assoc]
/-- What was listed is told again. -/
theorem unlist_list (ns : List Nat) (r : List UInt8) (most : Nat) (hl : ns.length ≤ most) (hm : most < 2 ^ 64) (hns : ∀ n ∈ ns, n < 2 ^ 64) : unlist (list ns ++ r) most = (ns, (list ns).length, 0) := by
  have e : list ns ++ r = put ns.length ++ (ns.flatMap put ++ r) := by simp [list]
  unfold unlist
  rw [e, take_put _ _ (by omega)]
  simp only
  rw [if_neg (by omega), unlistF_put ns (put ns.length) r [] hns]
  simp [list]
/-- A list of numbers has as many as were asked for. -/
theorem unlistF_len : ∀ (k at_ : Nat) (l : List UInt8) (out : List Nat), (unlistF k at_ l out).2.2 = 0 → (unlistF k at_ l out).1.length = out.length + k
  | 0, at_, l, out, _ => by simp [unlistF]
  | k + 1, at_, l, out, h => by
    rw [unlistF] at h ⊢
    split at h
    · rename_i x s hx
      rw [unlistF_len k _ l _ h]
      simp
      omega
    · rename_i x s e hne hx
      exact absurd h (hne ·)
end Pn

/-- A reader: what is left, and whether all went well. -/
abbrev Rd := List UInt8 × Bool
namespace Rd
def take (most : Nat) (r : Rd) : Nat × Rd :=
  if r.2 = true ∧ (Pn.take r.1).2.2 = 0 ∧ (Pn.take r.1).1 ≤ most then ((Pn.take r.1).1, (r.1.drop (Pn.take r.1).2.1, true)) else (0, (r.1, false))
/-- So many files, one behind the other. -/
def files (r : Rd) : Nat → List (Int × Int) × Rd
  | 0 => ([], r)
  | k + 1 => ((files r k).1 ++ [(((take 3 (files r k).2).1 : Int), ((take 1073741824 (take 3 (files r k).2).2).1 : Int))], (take 1073741824 (take 3 (files r k).2).2).2)
theorem take_put {n most : Nat} (r : List UInt8) (h : n ≤ most) (hm : most < 2 ^ 64) : take most (Pn.put n ++ r, true) = (n, (r, true)) := by
  unfold take
  simp only [Pn.take_put n r (by omega)]
  rw [if_pos (by simpa using h), List.drop_left]
theorem take_le (most : Nat) (r : Rd) : (take most r).1 ≤ most := by
  unfold take
  split
  · exact (by assumption : _ ∧ _ ∧ _).2.2
  · exact Nat.zero_le _
theorem take_len (most : Nat) (r : Rd) : (take most r).2.1.length ≤ r.1.length := by
  unfold take
  split
  · simp
  · exact Nat.le_refl _
theorem files_len (r : Rd) (k : Nat) : (files r k).1.length = k := by
  induction k with
  | zero => rfl
  | succ k ih => simp [files, ih]
theorem files_left (r : Rd) (k : Nat) : (files r k).2.1.length ≤ r.1.length := by
  induction k with
  | zero => exact Nat.le_refl _
  | succ k ih =>
    simp only [files]
    exact Nat.le_trans (take_len _ _) (Nat.le_trans (take_len _ _) ih)
theorem files_put (fs : List (Int × Int)) (r : List UInt8) (h : fs.all isFile = true) : ∀ k, k ≤ fs.length → files ((fs.flatMap fun f => Pn.put f.1.toNat ++ Pn.put f.2.toNat) ++ r, true) k = (fs.take k, ((fs.drop k).flatMap (fun f => Pn.put f.1.toNat ++ Pn.put f.2.toNat) ++ r, true))
  | 0, _ => by simp [files]
  | k + 1, hk => by
    have hf : isFile fs[k] = true := List.all_eq_true.1 h _ (List.getElem_mem (by omega))
    rw [List.take_succ_eq_append_getElem (by omega)]
    have hd : fs.drop k = fs[k] :: fs.drop (k + 1) := List.drop_eq_getElem_cons (by omega)
    generalize fs[k] = f at *
    simp only [isFile, isNum, Bool.and_eq_true, decide_eq_true_eq] at hf
    rw [files, files_put fs r h k (by omega), hd, List.flatMap_cons, List.append_assoc, List.append_assoc]
    simp only
    rw [take_put _ (by omega) (by omega)]
    simp only
    rw [take_put _ (by omega) (by omega)]
    simp only
    rw [show ((f.1.toNat : Nat) : Int) = f.1 by omega, show ((f.2.toNat : Nat) : Int) = f.2 by omega]
end Rd

def Ed.zero : Ed := ⟨[], [], 0, 0, 0, 0, 0⟩
/-- The numbers behind a change's files. -/
def Rd.tail (drop : List Int) (fs : List (Int × Int)) (r0 : Rd) : Ed × Rd :=
  (⟨drop, fs, ((Rd.take 1073741824 r0).1 : Int), (Rd.take 281474976710656 (Rd.take 1073741824 r0).2).1, (Rd.take 281474976710656 (Rd.take 281474976710656 (Rd.take 1073741824 r0).2).2).1,
    (Rd.take 281474976710656 (Rd.take 281474976710656 (Rd.take 281474976710656 (Rd.take 1073741824 r0).2).2).2).1,
    (Rd.take 281474976710656 (Rd.take 281474976710656 (Rd.take 281474976710656 (Rd.take 281474976710656 (Rd.take 1073741824 r0).2).2).2).2).1⟩,
    (Rd.take 281474976710656 (Rd.take 281474976710656 (Rd.take 281474976710656 (Rd.take 281474976710656 (Rd.take 1073741824 r0).2).2).2).2).2)
/-- What a change's bytes hold, taken one by one. -/
def Ed.scan (b : List UInt8) : Ed × Rd :=
  Rd.tail ((Pn.unlist b 40).1.map fun n => ((min n 1073741825 : Nat) : Int))
    (Rd.files (Rd.take 40 (b.drop (Pn.unlist b 40).2.1, true)).2 (Rd.take 40 (b.drop (Pn.unlist b 40).2.1, true)).1).1
    (Rd.files (Rd.take 40 (b.drop (Pn.unlist b 40).2.1, true)).2 (Rd.take 40 (b.drop (Pn.unlist b 40).2.1, true)).1).2
def Ed.good (p : Ed × Rd) : Bool := p.2.2 && p.2.1.isEmpty && p.1.may
/-- The change that bytes are, and the error. -/
def Ed.read (b : List UInt8) : Ed × Nat :=
  if (Pn.unlist b 40).2.2 ≠ 0 then (Ed.zero, 3) else if Ed.good (Ed.scan b) = true then ((Ed.scan b).1, 0) else (Ed.zero, 3)
theorem Ed.read_may {b : List UInt8} (h : (Ed.read b).2 = 0) : (Ed.read b).1.may = true := by
  unfold Ed.read at h ⊢
  split
  · rw [if_pos (by assumption)] at h; cases h
  · rw [if_neg (by assumption)] at h
    split
    · have hg := (by assumption : Ed.good (Ed.scan b) = true)
      simp only [Ed.good, Bool.and_eq_true] at hg
      exact hg.2
    · rw [if_neg (by assumption)] at h; cases h
/-- A change that may be is read again. -/
theorem Ed.read_bytes (e : Ed) (h : e.may = true) : Ed.read e.bytes = (e, 0) := by
  obtain ⟨drop, add, log, f, c, a, l⟩ := e
  have hm := h
  simp only [Ed.may, four4, Bool.and_eq_true, decide_eq_true_eq] at hm
  obtain ⟨⟨⟨⟨⟨h1, h2⟩, h3⟩, h4⟩, h5⟩, h6⟩ := hm
  have hd : ∀ n ∈ drop, 1 ≤ n ∧ n ≤ 1073741824 := fun n hn => by
    have := List.all_eq_true.1 h5 n hn
    simpa [isNum] using this
  obtain ⟨r, hr⟩ : ∃ r, r = Pn.put add.length ++ (add.flatMap (fun f => Pn.put f.1.toNat ++ Pn.put f.2.toNat) ++ (Pn.put log.toNat ++ (Pn.put f ++ (Pn.put c ++ (Pn.put a ++ Pn.put l))))) := ⟨_, rfl⟩
  have hb : Ed.bytes ⟨drop, add, log, f, c, a, l⟩ = Pn.list (drop.map Int.toNat) ++ r := by rw [hr]; rfl
  have hu := Pn.unlist_list (drop.map Int.toNat) r 40 (by simpa using h1) (by omega) (fun n hn => by
    obtain ⟨x, hx, rfl⟩ := List.mem_map.1 hn
    have := hd x hx
    omega)
  have hdr : (drop.map Int.toNat).map (fun n => ((min n 1073741825 : Nat) : Int)) = drop := by
    rw [List.map_map]
    refine (List.map_congr_left fun x hx => ?_).trans (List.map_id _)
    have := hd x hx
    simp
    omega
  have h0 : Rd.take 40 (r, true) = (add.length, (add.flatMap (fun f => Pn.put f.1.toNat ++ Pn.put f.2.toNat) ++ (Pn.put log.toNat ++ (Pn.put f ++ (Pn.put c ++ (Pn.put a ++ Pn.put l)))), true)) := by
    rw [hr, Rd.take_put _ h2 (by omega)]
  have hf := Rd.files_put add (Pn.put log.toNat ++ (Pn.put f ++ (Pn.put c ++ (Pn.put a ++ Pn.put l)))) h6 add.length (Nat.le_refl _)
  rw [List.take_length, List.drop_length, List.flatMap_nil, List.nil_append] at hf
  have hs : Ed.scan (Ed.bytes ⟨drop, add, log, f, c, a, l⟩) = (⟨drop, add, log, f, c, a, l⟩, ([], true)) := by
    unfold Ed.scan
    rw [hb, hu]
    simp only
    rw [List.drop_left, h0]
    simp only
    rw [hf, hdr]
    unfold Rd.tail
    simp only
    rw [Rd.take_put _ (by omega) (by omega)]
    simp only
    rw [Rd.take_put _ (by omega) (by omega)]
    simp only
    rw [Rd.take_put _ (by omega) (by omega)]
    simp only
    rw [Rd.take_put _ (by omega) (by omega)]
    simp only
    rw [show Pn.put l = Pn.put l ++ [] by simp, Rd.take_put _ (by omega) (by omega)]
    simp only
    rw [show ((log.toNat : Nat) : Int) = log by omega]
  unfold Ed.read
  rw [hs, hb, hu]
  simp only [ne_eq, not_true_eq_false, if_false]
  rw [if_pos (by simp [Ed.good, h])]

/-- A View with one record more. -/
def Vw.step (o : Option Vw) (p : Nat × List UInt8) : Option Vw := match o with
  | none => none
  | some v => if (Ed.read p.2).2 = 0 ∧ p.1 = 6 then v.app (Ed.read p.2).1 else none
def Vw.steps (l : List (Nat × List UInt8)) : Option Vw := l.foldl Vw.step (some Vw.none_)
theorem Vw.steps_take {l : List (Nat × List UInt8)} {k : Nat} (h : k < l.length) : Vw.steps (l.take (k + 1)) = Vw.step (Vw.steps (l.take k)) l[k] := by
  unfold Vw.steps
  rw [List.take_succ_eq_append_getElem h, List.foldl_append]
  rfl
theorem Vw.steps_none : ∀ l : List (Nat × List UInt8), l.foldl Vw.step none = none
  | [] => rfl
  | _ :: r => Vw.steps_none r
theorem Vw.steps_stop {l : List (Nat × List UInt8)} {k : Nat} (h : Vw.steps (l.take k) = none) : Vw.steps l = none := by
  unfold Vw.steps at *
  rw [← List.take_append_drop k l, List.foldl_append, h]
  exact Vw.steps_none _
/-- The View that a text makes, how many changes there are, and where they end. -/
def Vw.views (t : List UInt8) : Option (Vw × Nat × Nat) :=
  if ((Fr.split t).2.2.2 ≠ 0 ∧ (Fr.split t).2.2.2 ≠ 4) ∨ (Fr.split t).2.1 = [] then none
  else (Vw.steps ((Fr.split t).1.zip (Fr.split t).2.1)).map fun v => (v, (Fr.split t).2.1.length, (Fr.split t).2.2.1)
theorem Vw.app_ok {v v' : Vw} {e : Ed} (h : v.app e = some v') : v'.ok = true := by
  unfold Vw.app at h
  cases hd : dropAll e.drop v.files with
  | none => rw [hd] at h; cases h
  | some fs =>
    rw [hd] at h
    simp only at h
    generalize ({ log := if e.log = 0 then v.log else e.log, files := fs ++ e.add, floor := orElse e.floor v.floor, cert := orElse e.cert v.cert, at_ := orElse e.at_ v.at_, lease := orElse e.lease v.lease } : Vw) = x at h
    by_cases hx : x.ok = true
    · rw [if_pos hx] at h
      injection h with h
      rwa [← h]
    · rw [if_neg hx] at h
      cases h
theorem Vw.steps_eds (es : List Ed) (h : ∀ e ∈ es, e.may = true) : Vw.steps (es.map fun e => (6, e.bytes)) = Vw.none_.run es := by
  have key : ∀ (es : List Ed) (o : Option Vw), (∀ e ∈ es, e.may = true) → (es.map fun e => ((6 : Nat), e.bytes)).foldl Vw.step o = o.bind fun v => v.run es := by
    intro es
    induction es with
    | nil => intro o _; cases o <;> rfl
    | cons e r ih =>
      intro o h
      simp only [List.map_cons, List.foldl_cons]
      rw [ih _ (fun x hx => h x (by simp [hx]))]
      cases o with
      | none => rfl
      | some v =>
        unfold Vw.step
        simp only [Ed.read_bytes e (h e (by simp)), true_and, if_true, Option.bind, Vw.run]
        cases v.app e <;> rfl
  exact key es (some Vw.none_) h
theorem zip_map_six (es : List Ed) : (List.replicate es.length 6).zip (es.map Ed.bytes) = es.map fun e => ((6 : Nat), e.bytes) := by
  induction es with
  | nil => rfl
  | cons e r ih => simp [List.replicate_succ, ih]
/-- The text of changes, one behind the other. -/
def Ed.text (es : List Ed) : List UInt8 := Fr.all 6 (es.map Ed.bytes)
theorem Ed.text_snoc (es : List Ed) (e : Ed) : Ed.text (es ++ [e]) = Ed.text es ++ e.rec_ := by simp [Ed.text, Fr.all, Ed.rec_]
/-- A text of changes, with a torn one behind it or none. -/
theorem Vw.views_cut (es : List Ed) (h : ∀ e ∈ es, e.may = true) (h0 : es ≠ []) (e : Ed) (he : e.may = true) (n : Nat) (hn : n < e.rec_.length) :
    Vw.views (Ed.text es ++ e.rec_.take n) = (Vw.none_.run es).map fun v => (v, es.length, (Ed.text es).length) := by
  have hb : ∀ b ∈ es.map Ed.bytes, b.length ≤ 60000 := fun b hb => by
    obtain ⟨x, hx, rfl⟩ := List.mem_map.1 hb
    have := Ed.bytes_len x (h x hx)
    omega
  have hs : ∃ er, (er = 0 ∨ er = 4) ∧ Fr.split (Ed.text es ++ e.rec_.take n) = (List.replicate es.length 6, es.map Ed.bytes, (Ed.text es).length, er) := by
    rcases Nat.eq_zero_or_pos n with rfl | hn0
    · refine ⟨0, .inl rfl, ?_⟩
      have := Fr.split_all 6 (by decide) (by decide) (es.map Ed.bytes) hb
      simpa [Ed.text] using this
    · refine ⟨4, .inr rfl, ?_⟩
      have hl := Ed.bytes_len e he
      have := Fr.split_cut 6 (by decide) (by decide) (es.map Ed.bytes) hb e.bytes (by omega) n hn0 hn
      simpa [Ed.text, Ed.rec_] using this
  obtain ⟨er, her, hs⟩ := hs
  unfold Vw.views
  rw [hs]
  simp only
  rw [if_neg (by
    simp only [not_or, not_and, List.map_eq_nil_iff]
    exact ⟨fun a b => by omega, h0⟩), zip_map_six, Vw.steps_eds es h]
  simp
theorem Vw.views_text (es : List Ed) (h : ∀ e ∈ es, e.may = true) (h0 : es ≠ []) :
    Vw.views (Ed.text es) = (Vw.none_.run es).map fun v => (v, es.length, (Ed.text es).length) := by
  have h1 := Vw.views_cut es h h0 Ed.zero (by decide) 0 (by rw [Ed.rec_, Fr.put_length]; omega)
  simpa using h1
end Go.Proofs.YthepokgkfaocmaaGreatDoor

/-
  Files (api.File: a level and a number) in memory; the walks of edit's isNum, isFile, and of searches in slices of files and of numbers.
-/
namespace Go.Proofs.YthepokgkfaocmaaGreatDoor
open Go Go.RowKit

/-- Files as cells. -/
def fcells (fs : List (Int × Int)) : List Value := fs.flatMap fun f => [.int .i64 f.1, .int .i64 f.2]
theorem fcells_len (fs : List (Int × Int)) : (fcells fs).length = fs.length * 2 := by
  induction fs with
  | nil => rfl
  | cons f t ih => simp only [fcells, List.flatMap_cons, List.length_append, List.length_cons] at ih ⊢; simp only [List.length_nil] at *; omega
theorem fcells_app (a b : List (Int × Int)) : fcells (a ++ b) = fcells a ++ fcells b := by simp [fcells]
theorem fcells_one (fs : List (Int × Int)) : ∀ u ∈ fcells fs, u.oneCell' = true := by
  intro u hu
  obtain ⟨f, _, h⟩ := List.mem_flatMap.1 hu
  simp at h
  rcases h with rfl | rfl <;> rfl
theorem fcells_get : ∀ (fs : List (Int × Int)) (k : Nat) (hk : k < fs.length), (fcells fs)[k * 2]? = some (.int .i64 (fs[k]).1) ∧ (fcells fs)[k * 2 + 1]? = some (.int .i64 (fs[k]).2)
  | f :: t, 0, _ => by simp [fcells]
  | f :: t, k + 1, hk => by
    have ih := fcells_get t k (by simpa using hk)
    have e : fcells (f :: t) = .int .i64 f.1 :: .int .i64 f.2 :: fcells t := by simp [fcells]
    rw [e, show (k + 1) * 2 = k * 2 + 1 + 1 by omega, show k * 2 + 1 + 1 + 1 = (k * 2 + 1) + 1 + 1 by omega]
    simpa using ih
theorem fcells_take : ∀ (fs : List (Int × Int)) (k : Nat), fcells (fs.take k) = (fcells fs).take (k * 2)
  | fs, 0 => by simp [fcells]
  | [], k + 1 => by simp [fcells]
  | f :: t, k + 1 => by
    have ih := fcells_take t k
    have e : ∀ t, fcells (f :: t) = .int .i64 f.1 :: .int .i64 f.2 :: fcells t := fun t => by simp [fcells]
    rw [List.take_succ_cons, e, e, ih, show (k + 1) * 2 = k * 2 + 1 + 1 by omega]
    simp
theorem fcells_drop (fs : List (Int × Int)) (k : Nat) : fcells (fs.drop k) = (fcells fs).drop (k * 2) := by
  have h1 := fcells_app (fs.take k) (fs.drop k)
  rw [List.take_append_drop, fcells_take] at h1
  have h2 := List.take_append_drop (k * 2) (fcells fs)
  rw [h1] at h2
  rw [← h1] at h2
  exact (List.append_cancel_left (h2.trans h1)).symm
/-- The file at place k: where its cells lie, as the walk reads them. -/
structure FAt (B : Nat) (w : World) (a : Addr) (k : Nat) (f : Int × Int) : Prop where
  blk : a.block < B
  c0 : w.cell? (a.add (k * 2)) = some (.int .i64 f.1)
  c1 : w.cell? ⟨(a.add (k * 2)).block, (a.add (k * 2)).off + 1, none⟩ = some (.int .i64 f.2)
theorem fadd_at (a : Addr) (k : Nat) {j : Nat} (hj : 0 < j) : a.add (k + j) = ⟨(a.add k).block, (a.add k).off + j, none⟩ := by
  rw [← add_twice, Addr.add, if_neg (by omega)]
variable {B n : Nat} {w w' : World} {A : Option Addr} {fs : List (Int × Int)}
theorem Row.flen (h : Row B w A n 2 (fcells fs)) : fs.length = n := by
  have := h.len
  rw [fcells_len] at this
  omega
theorem Row.file (h : Row B w A n 2 (fcells fs)) {k : Nat} (hk : k < n) : ∃ a, ∃ hl : k < fs.length, A = some a ∧ FAt B w a k fs[k] := by
  have hl : k < fs.length := by have := h.flen; omega
  have hlen := fcells_len fs
  obtain ⟨g0, g1⟩ := fcells_get fs k hl
  obtain ⟨a, e, hb, c0⟩ := h.cell (k * 2) (by omega)
  obtain ⟨a', e', _, c1⟩ := h.cell (k * 2 + 1) (by omega)
  rw [e] at e'
  injection e' with e'
  subst e'
  rw [List.getElem?_eq_getElem (by omega)] at g0 g1
  injection g0 with g0
  injection g1 with g1
  rw [g0] at c0
  rw [g1, fadd_at a (k * 2) (by omega)] at c1
  exact ⟨a, hl, e, hb, c0, c1⟩
/-- Numbers as cells of type int. -/
def icells (ns : List Int) : List Value := ns.map fun n => .int .i64 n
theorem icells_get (ns : List Int) (k : Nat) : (icells ns)[k]? = (ns[k]?).map fun n => .int .i64 n := by simp [icells]
theorem Row.ilen {ns : List Int} (h : Row B w A n 1 (icells ns)) : ns.length = n := by
  have := h.len
  simp [icells] at this
  omega
theorem Row.int_ {ns : List Int} (h : Row B w A n 1 (icells ns)) {k : Nat} (hk : k < n) : ∃ a, ∃ hl : k < ns.length, A = some a ∧ a.block < B ∧ w.cell? (a.add k) = some (.int .i64 ns[k]) := by
  obtain ⟨a, v, e, hb, hv, hc⟩ := h.at1 hk
  have hl : k < ns.length := by have := h.ilen; omega
  rw [icells_get, List.getElem?_eq_getElem hl] at hv
  injection hv with hv
  subst hv
  exact ⟨a, hl, e, hb, hc⟩

def fV (f : Int × Int) : Value := .agg #[.int .i64 f.1, .int .i64 f.2]
theorem isnum_gen (n : Int) (w : World) : Calls Tryz.prog 61 #[.int .i64 n] w fun e w' => e = .returned (.bool (isNum n)) ∧ w = w' := by
  obtain ⟨b, hb⟩ : ∃ b, b = isNum n := ⟨_, rfl⟩
  rw [← hb]
  unfold isNum at hb
  have HB := Lib.hid hb
  clear hb
  go_enter Tryz.func61, Tryz.ntmps61
  by_cases h1 : 1 ≤ n
  · by_cases h2 : n ≤ 1073741824
    · go_wp2
      go_ret
      exact ⟨by rw [HB.out]; simp [h1, h2], rfl⟩
    · go_wp2
      go_ret
      exact ⟨by rw [HB.out]; simp [h2], rfl⟩
  · go_wp2
    go_ret
    exact ⟨by rw [HB.out]; simp; omega, rfl⟩
theorem isfile_gen (f : Int × Int) (w : World) : Calls Tryz.prog 63 #[.agg #[.int .i64 f.1, .int .i64 f.2]] w fun e w' => e = .returned (.bool (isFile f)) ∧ Below w.heap.size w w' := by
  obtain ⟨l, n⟩ := f
  obtain ⟨b, hb⟩ : ∃ b, b = isFile (l, n) := ⟨_, rfl⟩
  rw [← hb]
  unfold isFile at hb
  simp only at hb ⊢
  cases hn : isNum n with
  | false =>
    rw [hn] at hb
    have hq := isnum_gen n
    rw [hn] at hq
    have HB := Lib.hid hb
    clear hb hn
    go_enter Tryz.func63, Tryz.ntmps63
    go_wp2_with fail
    refine (hq _).mono ?_
    rintro e w1 ⟨rfl, rfl⟩
    go_wp2
    go_ret
    exact ⟨by rw [HB.out]; rfl, (Below.refl _ _).alloc (Nat.le_refl _) _⟩
  | true =>
    rw [hn] at hb
    have hq := isnum_gen n
    rw [hn] at hq
    have HB := Lib.hid hb
    clear hb hn
    by_cases h1 : 0 ≤ l
    · by_cases h2 : l ≤ 3
      · go_enter Tryz.func63, Tryz.ntmps63
        go_wp2_with fail
        refine (hq _).mono ?_
        rintro e w1 ⟨rfl, rfl⟩
        go_wp2
        go_ret
        exact ⟨by rw [HB.out]; simp [h1, h2], (Below.refl _ _).alloc (Nat.le_refl _) _⟩
      · go_enter Tryz.func63, Tryz.ntmps63
        go_wp2_with fail
        refine (hq _).mono ?_
        rintro e w1 ⟨rfl, rfl⟩
        go_wp2
        go_ret
        exact ⟨by rw [HB.out]; simp; omega, (Below.refl _ _).alloc (Nat.le_refl _) _⟩
    · go_enter Tryz.func63, Tryz.ntmps63
      go_wp2_with fail
      refine (hq _).mono ?_
      rintro e w1 ⟨rfl, rfl⟩
      go_wp2
      go_ret
      exact ⟨by rw [HB.out]; simp; omega, (Below.refl _ _).alloc (Nat.le_refl _) _⟩
/-- What Ok asks of two files. -/
theorem okc_any (f : Int × Int) (b : Nat) (m : Int) (w : World) (hc : w.cell? ⟨b, 1, none⟩ = some (.int .i64 m)) :
    Calls Tryz.prog 65 #[.agg #[.int .i64 f.1, .int .i64 f.2], .pointer (some ⟨b, 0, none⟩)] w fun e w' => e = .returned (.bool (f.2 == m)) ∧ Below w.heap.size w w' := by
  have hc1 : ∀ o, (w.alloc o).cell? ⟨b, 1, none⟩ = some (.int .i64 m) := fun o => (World.cell?_alloc_lt w o _ (World.block_lt_of_cell? w _ hc)).trans hc
  go_enter Tryz.func65, Tryz.ntmps65
  go_wp2
  go_ret
  exact ⟨rfl, (Below.refl _ _).alloc (Nat.le_refl _) _⟩
theorem apc_any (f : Int × Int) (p : Addr) (m : Int) (w : World) (hc : w.cell? p = some (.int .i64 m)) :
    Calls Tryz.prog 75 #[.agg #[.int .i64 f.1, .int .i64 f.2], .pointer (some p)] w fun e w' => e = .returned (.bool (f.2 == m)) ∧ Below w.heap.size w w' := by
  have hc1 : ∀ o, (w.alloc o).cell? p = some (.int .i64 m) := fun o => (World.cell?_alloc_lt w o _ (World.block_lt_of_cell? w _ hc)).trans hc
  go_enter Tryz.func75, Tryz.ntmps75
  go_wp2
  go_ret
  exact ⟨rfl, (Below.refl _ _).alloc (Nat.le_refl _) _⟩
theorem may2_any (f : Int × Int) (w : World) : Calls Tryz.prog 101 #[.agg #[.int .i64 f.1, .int .i64 f.2]] w fun e w' => e = .returned (.bool (!isFile f)) ∧ Below w.heap.size w w' := by
  go_enter Tryz.func101, Tryz.ntmps101
  go_wp2_with fail
  refine (isfile_gen f _).mono ?_
  rintro e w1 ⟨rfl, hb⟩
  go_wp2
  go_ret
  exact ⟨rfl, later_ ((Below.refl _ _).alloc (Nat.le_refl _) _) hb⟩
theorem may1_any (n : Int) (w : World) : Calls Tryz.prog 100 #[.int .i64 n] w fun e w' => e = .returned (.bool (!isNum n)) ∧ w = w' := by
  go_enter Tryz.func100, Tryz.ntmps100
  go_wp2_with fail
  refine (isnum_gen n _).mono ?_
  rintro e w1 ⟨rfl, rfl⟩
  go_wp2
  go_ret
  exact ⟨rfl, rfl⟩
theorem ret_i {k : IntKind} {a b : Int} (h : a = b) : Ending.returned (.int k a) = .returned (.int k b) := by rw [h]
theorem ret_b {a b : Bool} (h : a = b) : Ending.returned (.bool a) = .returned (.bool b) := by rw [h]
/-- The place of the first that is so, or -1. -/
def fidx {α : Type} (P : α → Bool) (l : List α) : Int := if l.any P = true then (l.findIdx P : Int) else -1
theorem fidx_none {α : Type} {P : α → Bool} {l : List α} (h : l.any P = false) : fidx P l = -1 := by unfold fidx; rw [h]; rfl
theorem any_take {α : Type} {P : α → Bool} {l : List α} {k : Nat} (h : k < l.length) : (l.take (k + 1)).any P = ((l.take k).any P || P l[k]) := by
  rw [List.take_succ_eq_append_getElem h, List.any_append]
  simp
theorem fidx_some {α : Type} {P : α → Bool} {l : List α} {k : Nat} (hl : k < l.length) (h0 : (l.take k).any P = false) (h1 : P l[k] = true) : fidx P l = (k : Int) := by
  unfold fidx
  rw [if_pos (List.any_eq_true.2 ⟨_, List.getElem_mem hl, h1⟩)]
  congr 1
  rw [List.findIdx_eq hl]
  refine ⟨h1, fun j hj => ?_⟩
  have := List.any_eq_false.1 h0 l[j] (by
    rw [List.mem_take_iff_getElem]
    exact ⟨j, by omega, rfl⟩)
  simpa using this
theorem fidx_ge {α : Type} (P : α → Bool) (l : List α) : decide (0 ≤ fidx P l) = l.any P := by
  unfold fidx
  split
  · rename_i h; rw [h]; simp
  · rename_i h; simp at h; simp; exact h
theorem fidx_lt {α : Type} {P : α → Bool} {l : List α} (h : l.any P = true) : ∃ i : Nat, fidx P l = (i : Int) ∧ ∃ hi : i < l.length, P l[i] = true ∧ l.findIdx P = i := by
  unfold fidx
  rw [if_pos h]
  have hl : l.findIdx P < l.length := List.findIdx_lt_length.2 (by simpa using h)
  exact ⟨_, rfl, hl, List.findIdx_getElem (w := hl), rfl⟩
set_option maxRecDepth 100000 in
theorem fidx_cap (K : Nat) (hF : ∀ args w, (callFunc K args).run Tryz.prog w = .ok (.enter K args) w) (p : Addr) (P : Int × Int → Bool) (A : Option Addr) (n c : Nat) (fs : List (Int × Int)) (w : World) (hn : n ≤ 1000000) (hr : Row w.heap.size w A n 2 (fcells fs))
    (hK : ∀ f w1, Below w.heap.size w w1 → Calls Tryz.prog K #[.agg #[.int .i64 f.1, .int .i64 f.2], .pointer (some p)] w1 fun e w' => e = .returned (.bool (P f)) ∧ Below w1.heap.size w1 w') :
    Calls Tryz.prog 74 #[.slice A n c, .func (.func K) #[] #[.pointer (some p)]] w fun e w' => e = .returned (.int .i64 (fidx P fs)) ∧ Below w.heap.size w w' := by
  have hnn := hr.flen
  have HK := Lib.hid hK
  have HF := Lib.hid hF
  clear hK hF
  go_enter Tryz.func74, Tryz.ntmps74
  go_wp2
  go_loopw [8] (fun i wr => ∃ k : Nat, k ≤ n ∧ i = .int .i64 (k : Int) ∧ Hid ((fs.take k).any P = false) ∧ Below w.heap.size w wr) (fun i _ => n - (intOf i).toNat)
  case atStart => exact ⟨0, Nat.zero_le _, rfl, Lib.hid rfl, Below.refl _ _⟩
  case round =>
    obtain ⟨k, hk, rfl, hb, hbl⟩ := hrel
    by_cases hlt : k < n
    · obtain ⟨a, hl, rfl, hbk, c0, c1⟩ := (hr.below hbl).file hlt
      have ht := any_take (P := P) hl
      have hs := fun h1 => fidx_some (P := P) hl hb.out h1
      generalize fs[k] = f at *
      have HT := Lib.hid ht
      have HS := Lib.hid hs
      clear ht hs hl
      have hc := HK.out f wr hbl
      cases hp : P f with
      | true =>
        rw [hp] at hc
        have HP := Lib.hid hp
        clear hp
        go_wp2_with fail
        rw [HF.out, Oper.upon_enter]
        refine hc.mono ?_
        rintro e w1 ⟨rfl, hb1⟩
        go_wp2
        go_ret
        exact ⟨ret_i (HS.out HP.out).symm, later_ hbl hb1⟩
      | false =>
        rw [hp] at hc
        have HP := Lib.hid hp
        clear hp
        go_wp2_with fail
        rw [HF.out, Oper.upon_enter]
        refine hc.mono ?_
        rintro e w1 ⟨rfl, hb1⟩
        go_wp2
        go_roundw
        case rel => exact ⟨k + 1, by omega, by go_num, Lib.hid (by rw [HT.out, hb.out, HP.out]; rfl), later_ hbl hb1⟩
        case measure => simp [intOf]; omega
    · have hall : fidx P fs = -1 := fidx_none (by
        have hb' := hb.out
        rwa [List.take_of_length_le (by omega)] at hb')
      have HA := Lib.hid hall
      clear hall
      go_wp2
      go_ret
      exact ⟨ret_i HA.out.symm, hbl⟩
end Go.Proofs.YthepokgkfaocmaaGreatDoor

/-
  The walks of edit.Ok and edit.may, for any Views and changes.
-/
namespace Go.Proofs.YthepokgkfaocmaaGreatDoor
open Go Go.RowKit

set_option maxRecDepth 100000 in
theorem fhas_cap (K : Nat) (hF : ∀ args w, (callFunc K args).run Tryz.prog w = .ok (.enter K args) w) (p : Addr) (P : Int × Int → Bool) (A : Option Addr) (n c : Nat) (fs : List (Int × Int)) (w : World) (hn : n ≤ 1000000) (hr : Row w.heap.size w A n 2 (fcells fs))
    (hK : ∀ f w1, Below w.heap.size w w1 → Calls Tryz.prog K #[.agg #[.int .i64 f.1, .int .i64 f.2], .pointer (some p)] w1 fun e w' => e = .returned (.bool (P f)) ∧ Below w1.heap.size w1 w') :
    Calls Tryz.prog 64 #[.slice A n c, .func (.func K) #[] #[.pointer (some p)]] w fun e w' => e = .returned (.bool (fs.any P)) ∧ Below w.heap.size w w' := by
  have hge := fidx_ge P fs
  have hq := fidx_cap K hF p P A n c fs w hn hr hK
  clear hK
  generalize fidx P fs = i at *
  have HGE := Lib.hid hge
  clear hge
  go_enter Tryz.func64, Tryz.ntmps64
  go_wp2_with fail
  refine hq.mono ?_
  rintro e w1 ⟨rfl, hb⟩
  clear hq
  go_wp2
  go_ret
  exact ⟨ret_b HGE.out, hb⟩
set_option maxRecDepth 100000 in
theorem fhas_may (A : Option Addr) (n c : Nat) (fs : List (Int × Int)) (w : World) (hn : n ≤ 1000000) (hr : Row w.heap.size w A n 2 (fcells fs)) :
    Calls Tryz.prog 64 #[.slice A n c, .func (.func 101) #[] #[]] w fun e w' => e = .returned (.bool (fs.any fun f => !isFile f)) ∧ Below w.heap.size w w' := by
  have hidx : Calls Tryz.prog 74 #[.slice A n c, .func (.func 101) #[] #[]] w fun e w' => e = .returned (.int .i64 (fidx (fun f => !isFile f) fs)) ∧ Below w.heap.size w w' := by
    obtain ⟨P, hP⟩ : ∃ P : Int × Int → Bool, P = fun f => !isFile f := ⟨_, rfl⟩
    have hK : ∀ f w1, Calls Tryz.prog 101 #[.agg #[.int .i64 f.1, .int .i64 f.2]] w1 fun e w' => e = .returned (.bool (P f)) ∧ Below w1.heap.size w1 w' := fun f w1 => by rw [hP]; exact may2_any f w1
    rw [← hP]
    have hnn := hr.flen
    have HK := Lib.hid hK
    clear hK hP
    go_enter Tryz.func74, Tryz.ntmps74
    go_wp2
    go_loopw [8] (fun i wr => ∃ k : Nat, k ≤ n ∧ i = .int .i64 (k : Int) ∧ Hid ((fs.take k).any P = false) ∧ Below w.heap.size w wr) (fun i _ => n - (intOf i).toNat)
    case atStart => exact ⟨0, Nat.zero_le _, rfl, Lib.hid rfl, Below.refl _ _⟩
    case round =>
      obtain ⟨k, hk, rfl, hb, hbl⟩ := hrel
      by_cases hlt : k < n
      · obtain ⟨a, hl, rfl, hbk, c0, c1⟩ := (hr.below hbl).file hlt
        have ht := any_take (P := P) hl
        have hs := fun h1 => fidx_some (P := P) hl hb.out h1
        generalize fs[k] = f at *
        have HT := Lib.hid ht
        have HS := Lib.hid hs
        clear ht hs hl
        have hc := HK.out f wr
        cases hp : P f with
        | true =>
          rw [hp] at hc
          have HP := Lib.hid hp
          clear hp
          go_wp2_with fail
          refine hc.mono ?_
          rintro e w1 ⟨rfl, hb1⟩
          go_wp2
          go_ret
          exact ⟨ret_i (HS.out HP.out).symm, later_ hbl hb1⟩
        | false =>
          rw [hp] at hc
          have HP := Lib.hid hp
          clear hp
          go_wp2_with fail
          refine hc.mono ?_
          rintro e w1 ⟨rfl, hb1⟩
          go_wp2
          go_roundw
          case rel => exact ⟨k + 1, by omega, by go_num, Lib.hid (by rw [HT.out, hb.out, HP.out]; rfl), later_ hbl hb1⟩
          case measure => simp [intOf]; omega
      · have hall : fidx P fs = -1 := fidx_none (by
          have hb' := hb.out
          rwa [List.take_of_length_le (by omega)] at hb')
        have HA := Lib.hid hall
        clear hall
        go_wp2
        go_ret
        exact ⟨ret_i HA.out.symm, hbl⟩
  have hge := fidx_ge (fun f => !isFile f) fs
  generalize fidx (fun f => !isFile f) fs = i at *
  have HGE := Lib.hid hge
  clear hge
  go_enter Tryz.func64, Tryz.ntmps64
  go_wp2_with fail
  refine hidx.mono ?_
  rintro e w1 ⟨rfl, hb⟩
  clear hidx
  go_wp2
  go_ret
  exact ⟨ret_b HGE.out, hb⟩
set_option maxRecDepth 100000 in
theorem ihas_may (A : Option Addr) (n c : Nat) (ns : List Int) (w : World) (hn : n ≤ 1000000) (hr : Row w.heap.size w A n 1 (icells ns)) :
    Calls Tryz.prog 99 #[.slice A n c, .func (.func 100) #[] #[]] w fun e w' => e = .returned (.bool (ns.any fun f => !isNum f)) ∧ w = w' := by
  have hidx : Calls Tryz.prog 122 #[.slice A n c, .func (.func 100) #[] #[]] w fun e w' => e = .returned (.int .i64 (fidx (fun f => !isNum f) ns)) ∧ w = w' := by
    obtain ⟨P, hP⟩ : ∃ P : Int → Bool, P = fun f => !isNum f := ⟨_, rfl⟩
    have hK : ∀ f w1, Calls Tryz.prog 100 #[.int .i64 f] w1 fun e w' => e = .returned (.bool (P f)) ∧ w1 = w' := fun f w1 => by rw [hP]; exact may1_any f w1
    rw [← hP]
    have hnn := hr.ilen
    have HK := Lib.hid hK
    clear hK hP
    go_enter Tryz.func122, Tryz.ntmps122
    go_wp2
    go_loop [8] (fun i => ∃ k : Nat, k ≤ n ∧ i = .int .i64 (k : Int) ∧ Hid ((ns.take k).any P = false)) (fun i => n - (intOf i).toNat)
    case atStart => exact ⟨0, Nat.zero_le _, rfl, Lib.hid rfl⟩
    case round =>
      obtain ⟨k, hk, rfl, hb⟩ := hrel
      by_cases hlt : k < n
      · obtain ⟨a, hl, rfl, hbk, c0⟩ := hr.int_ hlt
        have ht := any_take (P := P) hl
        have hs := fun h1 => fidx_some (P := P) hl hb.out h1
        generalize ns[k] = f at *
        have HT := Lib.hid ht
        have HS := Lib.hid hs
        clear ht hs hl
        have hc := HK.out f w
        cases hp : P f with
        | true =>
          rw [hp] at hc
          have HP := Lib.hid hp
          clear hp
          go_wp2_with fail
          refine hc.mono ?_
          rintro e w1 ⟨rfl, rfl⟩
          go_wp2
          go_ret
          exact ⟨ret_i (HS.out HP.out).symm, rfl⟩
        | false =>
          rw [hp] at hc
          have HP := Lib.hid hp
          clear hp
          go_wp2_with fail
          refine hc.mono ?_
          rintro e w1 ⟨rfl, rfl⟩
          go_wp2
          go_round
          case rel => exact ⟨k + 1, by omega, by go_num, Lib.hid (by rw [HT.out, hb.out, HP.out]; rfl)⟩
          case measure => simp [intOf]; omega
      · have hall : fidx P ns = -1 := fidx_none (by
          have hb' := hb.out
          rwa [List.take_of_length_le (by omega)] at hb')
        have HA := Lib.hid hall
        clear hall
        go_wp2
        go_ret
        exact ⟨ret_i HA.out.symm, rfl⟩
  have hge := fidx_ge (fun f => !isNum f) ns
  generalize fidx (fun f => !isNum f) ns = i at *
  have HGE := Lib.hid hge
  clear hge
  go_enter Tryz.func99, Tryz.ntmps99
  go_wp2_with fail
  refine hidx.mono ?_
  rintro e w1 ⟨rfl, rfl⟩
  clear hidx
  go_wp2
  go_ret
  exact ⟨ret_b HGE.out, rfl⟩

theorem four_bigs (a b c d : Nat) : four4 a b c d = !bigs [a, b, c, d] := by
  rw [Bool.eq_iff_iff]
  simp [four4, bigs]
  omega
theorem apart_pairs : ∀ fs : List (Int × Int), apart fs = true ↔ fs.Pairwise fun f g => g.2 ≠ f.2
  | [] => by simp [apart]
  | f :: r => by
    rw [apart, List.pairwise_cons, Bool.and_eq_true, apart_pairs r]
    simp
/-- A row of files that may be, file by file. -/
theorem files_good (fs : List (Int × Int)) : (fs.all isFile && apart fs) = true ↔ ∀ k (h : k < fs.length), isFile fs[k] = true ∧ (fs.take k).any (fun g => g.2 == (fs[k]).2) = false := by
  rw [Bool.and_eq_true, apart_pairs, List.all_eq_true, List.pairwise_iff_getElem]
  constructor
  · rintro ⟨h1, h2⟩ k hk
    refine ⟨h1 _ (List.getElem_mem hk), ?_⟩
    rw [List.any_eq_false]
    intro g hg
    obtain ⟨i, hi, rfl⟩ := List.mem_take_iff_getElem.1 hg
    have := h2 i k (by omega) hk (by omega)
    simp only [beq_iff_eq]
    exact fun e => this e.symm
  · intro h
    refine ⟨fun f hf => ?_, fun i j hi hj hij => ?_⟩
    · obtain ⟨k, hk, rfl⟩ := List.getElem_of_mem hf
      exact (h k hk).1
    · have := List.any_eq_false.1 (h j hj).2 fs[i] (List.mem_take_iff_getElem.2 ⟨i, by omega, rfl⟩)
      simp only [beq_iff_eq] at this
      exact fun e => this e.symm
/-- A View as a value: its row of files lies at A. -/
def Vw.val (v : Vw) (A : Option Addr) (n c : Nat) : Value := .agg #[.int .i64 v.log, .slice A n c, .int .u64 (v.floor : Int), .int .u64 (v.cert : Int), .int .u64 (v.at_ : Int), .int .u64 (v.lease : Int)]
def Vw.cells (v : Vw) (A : Option Addr) (n c : Nat) : List Value := [.int .i64 v.log, .slice A n c, .int .u64 (v.floor : Int), .int .u64 (v.cert : Int), .int .u64 (v.at_ : Int), .int .u64 (v.lease : Int)]
/-- A change as a value. -/
def Ed.val (e : Ed) (D : Option Addr) (m d : Nat) (A : Option Addr) (n c : Nat) : Value := .agg #[.slice D m d, .slice A n c, .int .i64 e.log, .int .u64 (e.floor : Int), .int .u64 (e.cert : Int), .int .u64 (e.at_ : Int), .int .u64 (e.lease : Int)]
def Ed.cells (e : Ed) (D : Option Addr) (m d : Nat) (A : Option Addr) (n c : Nat) : List Value := [.slice D m d, .slice A n c, .int .i64 e.log, .int .u64 (e.floor : Int), .int .u64 (e.cert : Int), .int .u64 (e.at_ : Int), .int .u64 (e.lease : Int)]
set_option maxRecDepth 100000 in
set_option maxHeartbeats 2000000 in
theorem ok_gen (v : Vw) (A : Option Addr) (n c : Nat) (w : World) (hn : n ≤ 1000000) (hnc : n ≤ c) (_hcm : c ≤ maxLen) (hr : Row w.heap.size w A n 2 (fcells v.files)) :
    Calls Tryz.prog 38 #[v.val A n c] w fun e w' => e = .returned (.bool v.ok) ∧ Below w.heap.size w w' := by
  obtain ⟨g, fs, f, ce, a, l⟩ := v
  obtain ⟨b, hb⟩ : ∃ b, b = Vw.ok ⟨g, fs, f, ce, a, l⟩ := ⟨_, rfl⟩
  have hfl := hr.flen
  rw [← hb]
  unfold Vw.ok at hb
  simp only at hb hr hfl
  rw [four_bigs, hfl, Bool.and_assoc _ _ (apart fs)] at hb
  unfold Vw.val
  simp only
  have hisn := isnum_gen g
  cases h1 : isNum g with
  | false =>
    rw [h1] at hb hisn
    have HB := Lib.hid hb
    clear hb h1
    go_enter Tryz.func38, Tryz.ntmps38
    go_wp2_with fail
    refine (hisn _).mono ?_
    rintro e w1 ⟨rfl, rfl⟩
    go_wp2
    go_ret
    exact ⟨ret_b HB.out.symm, (Below.refl _ _).alloc (Nat.le_refl _) _⟩
  | true =>
    rw [h1] at hb hisn
    by_cases h2 : n ≤ 40
    · cases h3 : bigs [f, ce, a, l] with
      | true =>
        rw [h3] at hb
        have HB := Lib.hid hb
        clear hb h1
        have HX := Lib.hid h3
        clear h3
        go_enter Tryz.func38, Tryz.ntmps38
        go_wp2_with fail
        refine (hisn _).mono ?_
        rintro e w1 ⟨rfl, rfl⟩
        clear hisn
        have hrow := u64_row (w.alloc (.cells #[.int .i64 g, .slice A n c, .int .u64 (f : Int), .int .u64 (ce : Int), .int .u64 (a : Int), .int .u64 (l : Int)] 31)) 29 #[.int .u64 (f : Int), .int .u64 (ce : Int), .int .u64 (a : Int), .int .u64 (l : Int)] [f, ce, a, l] 4 rfl rfl
        have hmeta := meta_any _ 4 4 [f, ce, a, l] _ (by omega) hrow
        rw [HX.out] at hmeta
        simp only [World.size_alloc, Bool.not_true] at hmeta
        clear hrow
        go_wp2_with fail
        refine hmeta.mono ?_
        rintro e w1 ⟨rfl, rfl⟩
        clear hmeta
        go_wp2
        go_ret
        exact ⟨ret_b (HB.out.trans (by simp)).symm, ((Below.refl _ _).alloc (Nat.le_refl _) _).alloc (by simp) _⟩
      | false =>
        rw [h3] at hb
        have hgd := files_good fs
        have hbb : b = (fs.all isFile && apart fs) := by rw [hb]; simp [h2]
        rw [← hbb] at hgd
        have HG := Lib.hid hgd
        clear hb h1 hgd hbb
        have HX := Lib.hid h3
        clear h3
        go_enter Tryz.func38, Tryz.ntmps38
        go_wp2_with fail
        refine (hisn _).mono ?_
        rintro e w1 ⟨rfl, rfl⟩
        clear hisn
        have hrow := u64_row (w.alloc (.cells #[.int .i64 g, .slice A n c, .int .u64 (f : Int), .int .u64 (ce : Int), .int .u64 (a : Int), .int .u64 (l : Int)] 31)) 29 #[.int .u64 (f : Int), .int .u64 (ce : Int), .int .u64 (a : Int), .int .u64 (l : Int)] [f, ce, a, l] 4 rfl rfl
        have hmeta := meta_any _ 4 4 [f, ce, a, l] _ (by omega) hrow
        rw [HX.out] at hmeta
        simp only [World.size_alloc, Bool.not_false] at hmeta
        clear hrow
        go_wp2_with fail
        refine hmeta.mono ?_
        rintro e w1 ⟨rfl, rfl⟩
        clear hmeta
        have hbx0 := (BoxO.new w #[.int .i64 g, .slice A n c, .int .u64 (f : Int), .int .u64 (ce : Int), .int .u64 (a : Int), .int .u64 (l : Int)] 31).alloc (.cells #[.int .u64 (f : Int), .int .u64 (ce : Int), .int .u64 (a : Int), .int .u64 (l : Int)] 29)
        have hbl0 := ((Below.refl w.heap.size w).alloc (Nat.le_refl _) (.cells #[.int .i64 g, .slice A n c, .int .u64 (f : Int), .int .u64 (ce : Int), .int .u64 (a : Int), .int .u64 (l : Int)] 31)).alloc (by simp) (.cells #[.int .u64 (f : Int), .int .u64 (ce : Int), .int .u64 (a : Int), .int .u64 (l : Int)] 29)
        go_wp2
        go_loopw [31] (fun i wr => ∃ k : Nat, k ≤ n ∧ i = .int .i64 (k : Int) ∧ Hid (∀ j (h : j < fs.length), j < k → isFile fs[j] = true ∧ (fs.take j).any (fun g => g.2 == (fs[j]).2) = false) ∧
          BoxO wr 31 w.heap.size [.int .i64 g, .slice A n c, .int .u64 (f : Int), .int .u64 (ce : Int), .int .u64 (a : Int), .int .u64 (l : Int)] ∧ Below w.heap.size w wr) (fun i _ => n - (intOf i).toNat)
        case atStart => exact ⟨0, Nat.zero_le _, rfl, Lib.hid (fun j h hj => by omega), hbx0, hbl0⟩
        case round =>
          obtain ⟨k, hk, rfl, hgd, hBx, hbl⟩ := hrel
          clear hbx0 hbl0
          by_cases hlt : k < n
          · have hrk := (hr.pre (m := k) hk).below hbl
            rw [← fcells_take] at hrk
            obtain ⟨ad, hl, rfl, hbk, c0, c1⟩ := (hr.below hbl).file hlt
            have hbad1 : isFile fs[k] = false → b = false := fun h => by
              cases b with
              | false => rfl
              | true => have := (HG.out.1 rfl k hl).1; rw [h] at this; cases this
            have hbad2 : (fs.take k).any (fun g => g.2 == (fs[k]).2) = true → b = false := fun h => by
              cases b with
              | false => rfl
              | true => have := (HG.out.1 rfl k hl).2; rw [h] at this; cases this
            have hnext : isFile fs[k] = true → (fs.take k).any (fun g => g.2 == (fs[k]).2) = false → ∀ j (h : j < fs.length), j < k + 1 → isFile fs[j] = true ∧ (fs.take j).any (fun g => g.2 == (fs[j]).2) = false := fun e1 e2 j hj hjk => by
              rcases Nat.lt_or_ge j k with h | h
              · exact hgd.out j hj h
              · obtain rfl : j = k := by omega
                exact ⟨e1, e2⟩
            generalize fs[k] = x at *
            obtain ⟨ps, hps⟩ : ∃ ps, ps = fs.take k := ⟨_, rfl⟩
            rw [← hps] at hbad2 hnext hrk
            have H1 := Lib.hid hbad1
            have H2 := Lib.hid hbad2
            have H3 := Lib.hid hnext
            clear hbad1 hbad2 hnext hgd hps HG HX hl
            have q1 := hBx.cell 1
            simp only [List.getElem?_cons_zero, List.getElem?_cons_succ] at q1
            have hisf := isfile_gen x
            cases hx : isFile x with
            | false =>
              rw [hx] at hisf
              have HF := Lib.hid hx
              clear hx
              go_wp2_with fail
              refine (hisf _).mono ?_
              rintro e w1 ⟨rfl, hb1⟩
              have hbw := later_ (hbl.alloc hbl.size (.cells #[.int .i64 x.1, .int .i64 x.2] 114)) hb1
              clear hisf
              go_wp2
              go_ret
              exact ⟨ret_b (H1.out HF.out).symm, hbw⟩
            | true =>
              rw [hx] at hisf
              have HF := Lib.hid hx
              clear hx
              go_wp2_with fail
              refine (hisf _).mono ?_
              rintro e w1 ⟨rfl, hb1⟩
              have hbA := Below.alloc (Below.refl wr.heap.size wr) (Nat.le_refl _) (.cells #[.int .i64 x.1, .int .i64 x.2] 114)
              have hbw := later_ hbA hb1
              have hB1 := hBx.below hbw
              have hXc : w1.cell? ⟨wr.heap.size, 1, none⟩ = some (.int .i64 x.2) := by
                rw [hb1.cell (p := ⟨wr.heap.size, 1, none⟩) (by simp)]
                exact (BoxO.new wr #[.int .i64 x.1, .int .i64 x.2] 114).cell 1
              have hbz := later_ hbl hbw
              have hrk1 := (hrk.below (hbw.mono hbl.size)).up hbz.size
              have hXlt := World.block_lt_of_cell? w1 _ hXc
              clear hisf hb1 hbA hbw hBx q1 c0 c1
              have q1 := hB1.cell 1
              simp only [List.getElem?_cons_zero, List.getElem?_cons_succ] at q1
              have hfh := fhas_cap 65 (fun _ _ => rfl) ⟨wr.heap.size, 0, none⟩ (fun f => f.2 == x.2) (some ad) k c ps w1 (by omega) hrk1 (fun f w2 hb2 => okc_any f wr.heap.size x.2 w2 ((hb2.cell (p := ⟨wr.heap.size, 1, none⟩) hXlt).trans hXc))
              cases hany : ps.any (fun f => f.2 == x.2) with
              | true =>
                rw [hany] at hfh
                have HY := Lib.hid hany
                clear hany
                go_wp2_with fail
                refine hfh.mono ?_
                rintro e w2 ⟨rfl, hb2⟩
                have hbq := later_ hbz hb2
                clear hfh
                go_wp2
                go_ret
                exact ⟨ret_b (H2.out HY.out).symm, hbq⟩
              | false =>
                rw [hany] at hfh
                have HY := Lib.hid hany
                clear hany
                go_wp2_with fail
                refine hfh.mono ?_
                rintro e w2 ⟨rfl, hb2⟩
                have hbq := later_ hbz hb2
                have hB2 := hB1.below hb2
                clear hfh
                go_wp2
                go_roundw
                case rel => exact ⟨k + 1, by omega, by go_num, Lib.hid (H3.out HF.out HY.out), hB2, hbq⟩
                case measure => simp [intOf]; omega
          · have hfin : b = true := HG.out.2 (fun j hj => hgd.out j hj (by omega))
            have HF := Lib.hid hfin
            clear hfin hgd HG HX
            go_wp2
            go_ret
            exact ⟨ret_b HF.out.symm, hbl⟩
    · have hbf : b = false := by rw [hb]; simp [h2]
      have HB := Lib.hid hbf
      clear hb h1 hbf
      go_enter Tryz.func38, Tryz.ntmps38
      go_wp2_with fail
      refine (hisn _).mono ?_
      rintro e w1 ⟨rfl, rfl⟩
      go_wp2
      go_ret
      exact ⟨ret_b HB.out.symm, (Below.refl _ _).alloc (Nat.le_refl _) _⟩
end Go.Proofs.YthepokgkfaocmaaGreatDoor
