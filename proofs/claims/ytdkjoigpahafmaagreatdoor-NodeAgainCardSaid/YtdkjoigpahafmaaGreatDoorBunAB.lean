/- Texts Disk, DiskA, DiskB, DiskC, DiskD, PlainDiskB in one. No conditions. -/
import Derived.Test.YtdkjoigpahafmaaGreatDoorBunAA
import Derived.Maps.OwnSet
import Derived.Maps.OwnOps
import Derived.Laws.LoneSync
import Derived.Maps.RangeWalk

set_option linter.unusedSimpArgs false
set_option linter.unusedVariables false
set_option maxRecDepth 100000
set_option maxHeartbeats 16000000
namespace Go.Proofs.YtdkjoigpahafmaaGreatDoor
section
open Go Go.RowKit
def str (l : List UInt8) : ByteArray := ⟨l.toArray⟩
theorem str_list (s : ByteArray) : str s.data.toList = s := by simp [str]
theorem list_str (l : List UInt8) : (str l).data.toList = l := by simp [str]
theorem str_size (l : List UInt8) : (str l).size = l.length := by simp [str, ByteArray.size]
structure Dw where
 d : Nat
 nb : Nat
 lb : Nat
 fv : Value
 tv : Value
 ps : List (Nat × Value)
def fileFoot (p : Nat × Value) : List Nat := p.1 :: p.2.ownBlock.toList
def Dw.foot (X : Dw) : List Nat := [X.d] ++ ([X.nb] ++ ([X.lb] ++ (X.fv.ownBlock.toList ++ (X.tv.ownBlock.toList ++ X.ps.flatMap fileFoot))))
def ptrV (p : Nat × Value) : Value := .pointer (some ⟨p.1, 0, none⟩)
def turnCells (t : Tn) : List Value := [.int .i64 (t.kind : Int), .int .i64 (t.file : Int), .string (str t.a), .string (str t.b)]
structure FileAt (w : World) (p : Nat × Value) (f : List UInt8 × Nat) : Prop where
 box : BoxO w 123 p.1 [p.2, .int .i64 (f.2 : Int)]
 row : w.ownsRow 0 5 1 p.2 f.1.length (bts f.1)
abbrev NamesAt (w : World) (nb n : Nat) (M : Nm) : Prop := w.ownsMap Tryz.prog 9 (plainElem (H := Unit) Tryz.prog 3) nb n (Nm.enc M)
def Dw.cells (X : Dw) (S : Sd) : List Value := [.int .i64 (S.quota : Int), X.fv, .map (some X.nb), .map (some X.lb), X.tv, .int .i64 S.calls, .bool S.dead, .int .i64 (S.stop : Int), .int .i64 (S.fail : Int)]
structure DK (w : World) (X : Dw) (S : Sd) : Prop where
 box : BoxO w 105 X.d (X.cells S)
 names : NamesAt w X.nb S.names.length S.names
 lasted : NamesAt w X.lb S.lasted.length S.lasted
 files : w.ownsRow 0 120 1 X.fv S.files.length (X.ps.map ptrV)
 file : ∀ i (h : i < S.files.length) (h2 : i < X.ps.length), FileAt w X.ps[i] S.files[i]
 turns : w.ownsRow 0 125 4 X.tv S.turns.length (S.turns.flatMap turnCells)
 nodup : X.foot.Nodup
variable {w w' : World} {X : Dw} {S : Sd} {G : List Nat}
theorem DK.flen (h : DK w X S) : X.ps.length = S.files.length := by
 have := h.files.1
 simpa using this
theorem own_chg {base n size : Nat} {e : TypeId} {v : Value} {xs : List Value} (h : w.ownsRow base e size v n xs) (c : Chg G w w') (hg : ∀ g, v.ownBlock = some g → g ∉ G) : w'.ownsRow base e size v n xs := by
 refine ⟨h.1, ?_⟩
 rcases h.2 with h0 | ⟨g, cap, cur, rfl, h1, h2, r⟩
 ·exact .inl h0
 ·exact .inr ⟨g, cap, cur, rfl, h1, (c.block g (Array.getElem?_eq_some_iff.1 h2).1 (hg g rfl)).trans h2, r⟩
theorem map_chg {b n : Nat} {D : DataW Unit} {k e : TypeId} (h : w.ownsMap Tryz.prog k (plainElem (H := Unit) Tryz.prog e) b n D) (c : Chg G w w') (hg : b ∉ G) : w'.ownsMap Tryz.prog k (plainElem (H := Unit) Tryz.prog e) b n D := by
 have hlt := h.lt
 obtain ⟨es, clock, hb, r⟩ := h
 exact ⟨es, clock, (c.block b hlt hg).trans hb, r⟩
theorem map_tight {b n : Nat} {D : DataW Unit} {k e : TypeId} (h : w.ownsMap Tryz.prog k (plainElem (H := Unit) Tryz.prog e) b n D) : w.ownsMap Tryz.prog k (plainElem (H := Unit) Tryz.prog e) b (Maps.size D) D := by
 obtain ⟨es, clock, hb, F, hs, rfl⟩ := h
 exact ⟨es, clock, hb, F, by rw [Maps.size_eq, length_sorted]; simp, rfl⟩
theorem names_tight {b n : Nat} {M : Nm} (h : NamesAt w b n M) : NamesAt w b M.length M := by
 have h1 := map_tight h
 rwa [Nm.enc_size] at h1
theorem FileAt.chg {p : Nat × Value} {f : List UInt8 × Nat} (h : FileAt w p f) (c : Chg G w w') (hg : ∀ g ∈ fileFoot p, g ∉ G) : FileAt w' p f :=
 ⟨h.box.chg c (hg _ (by simp [fileFoot])), own_chg h.row c (fun g e => hg g (by simp [fileFoot, e]))⟩
theorem mem_foot {g : Nat} : g ∈ X.foot ↔ g = X.d ∨ g = X.nb ∨ g = X.lb ∨ X.fv.ownBlock = some g ∨ X.tv.ownBlock = some g ∨ ∃ p ∈ X.ps, g ∈ fileFoot p := by
 simp [Dw.foot, List.mem_flatMap]
theorem DK.lt (h : DK w X S) : ∀ g ∈ X.foot, g < w.heap.size := by
 intro g hg
 rcases mem_foot.1 hg with rfl | rfl | rfl | h1 | h1 | ⟨p, hp, hgp⟩
 ·exact h.box.lt
 ·exact h.names.lt
 ·exact h.lasted.lt
 ·exact (h.files.lt g h1).2
 ·exact (h.turns.lt g h1).2
 ·obtain ⟨i, hi, rfl⟩ := List.getElem_of_mem hp
  have hf := h.file i (by have := h.flen; omega) hi
  simp only [fileFoot, List.mem_cons, Option.mem_toList] at hgp
  rcases hgp with rfl | hgp
  ·exact hf.box.lt
  ·exact (hf.row.lt g hgp).2
structure Apart (X : Dw) : Prop where
 d_nb : X.d ≠ X.nb
 d_lb : X.d ≠ X.lb
 nb_lb : X.nb ≠ X.lb
 fv : ∀ g, X.fv.ownBlock = some g → g ≠ X.d ∧ g ≠ X.nb ∧ g ≠ X.lb ∧ X.tv.ownBlock ≠ some g
 tv : ∀ g, X.tv.ownBlock = some g → g ≠ X.d ∧ g ≠ X.nb ∧ g ≠ X.lb ∧ X.fv.ownBlock ≠ some g
 ps : ∀ p ∈ X.ps, ∀ g ∈ fileFoot p, g ≠ X.d ∧ g ≠ X.nb ∧ g ≠ X.lb ∧ X.fv.ownBlock ≠ some g ∧ X.tv.ownBlock ≠ some g
 each : ∀ i j (hi : i < X.ps.length) (hj : j < X.ps.length), i ≠ j → ∀ g ∈ fileFoot X.ps[i], g ∉ fileFoot X.ps[j]
 self : ∀ p ∈ X.ps, p.2.ownBlock ≠ some p.1
theorem flat_apart {α : Type} (f : α → List Nat) : ∀ (l : List α), (l.flatMap f).Nodup → (∀ i j (hi : i < l.length) (hj : j < l.length), i ≠ j → ∀ g ∈ f l[i], g ∉ f l[j]) ∧ ∀ p ∈ l, (f p).Nodup
 | [], _ => ⟨fun i j hi => by simp at hi, fun p hp => by cases hp⟩
 | a :: r, h => by
  rw [List.flatMap_cons] at h
  obtain ⟨h1, h2, h3⟩ := List.nodup_append.1 h
  obtain ⟨i1, i2⟩ := flat_apart f r h2
  refine ⟨fun i j hi hj hne g hg hg' => ?_, fun p hp => ?_⟩
  ·rcases i with _ | i <;> rcases j with _ | j
   ·exact hne rfl
   ·exact h3 g (by simpa using hg) g (List.mem_flatMap.2 ⟨r[j]'(by simpa using hj), List.getElem_mem _, by simpa using hg'⟩) rfl
   ·exact h3 g (by simpa using hg') g (List.mem_flatMap.2 ⟨r[i]'(by simpa using hi), List.getElem_mem _, by simpa using hg⟩) rfl
   ·exact i1 i j (by simpa using hi) (by simpa using hj) (by omega) g (by simpa using hg) (by simpa using hg')
  ·rcases List.mem_cons.1 hp with rfl | hp
   ·exact h1
   ·exact i2 p hp
theorem apart_of (h : X.foot.Nodup) : Apart X := by
 unfold Dw.foot at h
 obtain ⟨_, h, a1⟩ := List.nodup_append.1 h
 obtain ⟨_, h, a2⟩ := List.nodup_append.1 h
 obtain ⟨_, h, a3⟩ := List.nodup_append.1 h
 obtain ⟨_, h, a4⟩ := List.nodup_append.1 h
 obtain ⟨_, h, a5⟩ := List.nodup_append.1 h
 obtain ⟨e1, e2⟩ := flat_apart fileFoot X.ps h
 simp only [List.mem_append, List.mem_singleton, Option.mem_toList, List.mem_flatMap] at a1 a2 a3 a4 a5
 refine ⟨a1 _ rfl _ (.inl rfl), a1 _ rfl _ (.inr (.inl rfl)), a2 _ rfl _ (.inl rfl), fun g e => ⟨(a1 _ rfl g (.inr (.inr (.inl e)))).symm, (a2 _ rfl g (.inr (.inl e))).symm, (a3 _ rfl g (.inl e)).symm, fun e2 => a4 g e g (.inl e2) rfl⟩,
  fun g e => ⟨(a1 _ rfl g (.inr (.inr (.inr (.inl e))))).symm, (a2 _ rfl g (.inr (.inr (.inl e)))).symm, (a3 _ rfl g (.inr (.inl e))).symm, fun e2 => a4 g e2 g (.inl e) rfl⟩,
  fun p hp g hg => ⟨(a1 _ rfl g (.inr (.inr (.inr (.inr ⟨p, hp, hg⟩))))).symm, (a2 _ rfl g (.inr (.inr (.inr ⟨p, hp, hg⟩)))).symm, (a3 _ rfl g (.inr (.inr ⟨p, hp, hg⟩))).symm, fun e2 => a4 g e2 g (.inr ⟨p, hp, hg⟩) rfl, fun e2 => a5 g e2 g ⟨p, hp, hg⟩ rfl⟩, e1, fun p hp e => ?_⟩
 have hn := e2 p hp
 unfold fileFoot at hn
 exact (List.nodup_cons.1 hn).1 (by simp [e])
theorem DK.apart (h : DK w X S) : Apart X := apart_of h.nodup
theorem DK.chg (h : DK w X S) (c : Chg G w w') (hg : ∀ g ∈ G, g ∉ X.foot) : DK w' X S := by
 have hn : ∀ g ∈ X.foot, g ∉ G := fun g h1 h2 => hg g h2 h1
 exact ⟨h.box.chg c (hn _ (mem_foot.2 (.inl rfl))), map_chg h.names c (hn _ (mem_foot.2 (.inr (.inl rfl)))), map_chg h.lasted c (hn _ (mem_foot.2 (.inr (.inr (.inl rfl))))), own_chg h.files c (fun g e => hn g (mem_foot.2 (.inr (.inr (.inr (.inl e)))))),
  fun i hi h2 => (h.file i hi h2).chg c (fun g e => hn g (mem_foot.2 (.inr (.inr (.inr (.inr (.inr ⟨_, List.getElem_mem h2, e⟩))))))), own_chg h.turns c (fun g e => hn g (mem_foot.2 (.inr (.inr (.inr (.inr (.inl e))))))), h.nodup⟩
theorem DK.below (h : DK w X S) (hb : Below w.heap.size w w') : DK w' X S := h.chg (Chg.of_below hb []) (fun g hg => by cases hg)
theorem DK.rebox {S' : Sd} (h : DK w X S) (c : Chg [X.d] w w') (hb : BoxO w' 105 X.d (X.cells S')) (e1 : S'.names = S.names) (e2 : S'.lasted = S.lasted) (e3 : S'.files = S.files) (e4 : S'.turns = S.turns) : DK w' X S' := by
 have a := h.apart
 obtain ⟨q, fs, nm, la, tu, ca, de, st, fa⟩ := S'
 simp only at e1 e2 e3 e4
 subst e1 e2 e3 e4
 exact ⟨hb, map_chg h.names c (by simpa using a.d_nb.symm), map_chg h.lasted c (by simpa using a.d_lb.symm), own_chg h.files c (fun g e => by simpa using (a.fv g e).1), fun i hi h2 => (h.file i hi h2).chg c (fun g e => by simpa using (a.ps _ (List.getElem_mem h2) g e).1),
  own_chg h.turns c (fun g e => by simpa using (a.tv g e).1), h.nodup⟩
def Upd (X : Dw) (w w' : World) (S' : Sd) : Prop := ∃ X', X'.d = X.d ∧ DK w' X' S' ∧ Chg X.foot w w' ∧ ∀ g ∈ X'.foot, g ∈ X.foot ∨ w.heap.size ≤ g
theorem Upd.same (h : DK w' X S) (c : Chg X.foot w w') : Upd X w w' S := ⟨X, rfl, h, c, fun _ hg => .inl hg⟩
theorem nodup_swap {l1 a a' l2 : List Nat} {n : Nat} (h : (l1 ++ (a ++ l2)).Nodup) (lt : ∀ x ∈ l1 ++ (a ++ l2), x < n) (ha : a'.Nodup) (hx : ∀ x ∈ a', x ∈ a ∨ n ≤ x) : (l1 ++ (a' ++ l2)).Nodup := by
 obtain ⟨h1, h2, h3⟩ := List.nodup_append.1 h
 obtain ⟨h4, h5, h6⟩ := List.nodup_append.1 h2
 refine List.nodup_append.2 ⟨h1, List.nodup_append.2 ⟨ha, h5, fun x hx1 y hy e => ?_⟩, fun x hx1 y hy e => ?_⟩
 ·subst e
  rcases hx x hx1 with h7 | h7
  ·exact h6 x h7 x hy rfl
  ·have := lt x (by simp [hy]); omega
 ·subst e
  rcases List.mem_append.1 hy with hy | hy
  ·rcases hx x hy with h7 | h7
   ·exact h3 x hx1 x (by simp [h7]) rfl
   ·have := lt x (by simp [hx1]); omega
  ·exact h3 x hx1 x (by simp [hy]) rfl
theorem DK.setNames {n : Nat} {M : Nm} (h : DK w X S) (hn : NamesAt w' X.nb n M) (c : Chg [X.nb] w w') : DK w' X { S with names := M } := by
 have a := h.apart
 exact ⟨h.box.chg c (by simpa using a.d_nb), names_tight hn, map_chg h.lasted c (by simpa using a.nb_lb.symm), own_chg h.files c (fun g e => by simpa using (a.fv g e).2.1), fun i hi h2 => (h.file i hi h2).chg c (fun g e => by simpa using (a.ps _ (List.getElem_mem h2) g e).2.1),
  own_chg h.turns c (fun g e => by simpa using (a.tv g e).2.1), h.nodup⟩
theorem DK.setTurns {tv : Value} {ts : List Tn} (h : DK w X S) (hr : w'.ownsRow 0 125 4 tv ts.length (ts.flatMap turnCells)) (c : Chg ([X.d] ++ X.tv.ownBlock.toList) w w') (hv : ∀ g, tv.ownBlock = some g → X.tv.ownBlock = some g ∨ w.heap.size ≤ g)
  (hb : BoxO w' 105 X.d (({ X with tv := tv } : Dw).cells { S with turns := ts })) : DK w' { X with tv := tv } { S with turns := ts } := by
 have a := h.apart
 have nt : ∀ g, g ≠ X.d → X.tv.ownBlock ≠ some g → g ∉ [X.d] ++ X.tv.ownBlock.toList := fun g h1 h2 h3 => by
  rcases List.mem_append.1 h3 with h3 | h3
  ·exact h1 (by simpa using h3)
  ·exact h2 (by simpa using h3)
 refine ⟨hb, map_chg h.names c (nt _ a.d_nb.symm (fun e => (a.tv _ e).2.1 rfl)), map_chg h.lasted c (nt _ a.d_lb.symm (fun e => (a.tv _ e).2.2.1 rfl)), own_chg h.files c (fun g e => nt g (a.fv g e).1 (a.fv g e).2.2.2),
  fun i hi h2 => (h.file i hi h2).chg c (fun g e => nt g (a.ps _ (List.getElem_mem h2) g e).1 (a.ps _ (List.getElem_mem h2) g e).2.2.2.2), hr, ?_⟩
 have hl := h.lt
 have hnd := h.nodup
 unfold Dw.foot at hl hnd ⊢
 simp only [← List.append_assoc] at hl hnd ⊢
 simp only [List.append_assoc ([X.d] ++ [X.nb] ++ [X.lb] ++ X.fv.ownBlock.toList)] at hl hnd ⊢
 exact nodup_swap hnd hl (by cases tv.ownBlock <;> simp) (fun x hx => by simpa using hv x (by simpa using hx))
theorem DK.setFile {i : Nat} {v : Value} {f : List UInt8 × Nat} (h : DK w X S) (hi : i < X.ps.length) (hf : FileAt w' ((X.ps[i]).1, v) f) (c : Chg (fileFoot X.ps[i]) w w') (hv : ∀ g, v.ownBlock = some g → (X.ps[i]).2.ownBlock = some g ∨ w.heap.size ≤ g) :
  DK w' { X with ps := X.ps.set i ((X.ps[i]).1, v) } { S with files := S.files.set i f } := by
 have a := h.apart
 have hp := a.ps _ (List.getElem_mem hi)
 have nt : ∀ g, (g = X.d ∨ g = X.nb ∨ g = X.lb ∨ X.fv.ownBlock = some g ∨ X.tv.ownBlock = some g) → g ∉ fileFoot X.ps[i] := fun g h1 h2 => by
  obtain ⟨b1, b2, b3, b4, b5⟩ := hp g h2
  rcases h1 with h1 | h1 | h1 | h1 | h1
  ·exact b1 h1
  ·exact b2 h1
  ·exact b3 h1
  ·exact b4 h1
  ·exact b5 h1
 refine ⟨h.box.chg c (nt _ (.inl rfl)), map_chg h.names c (nt _ (.inr (.inl rfl))), map_chg h.lasted c (nt _ (.inr (.inr (.inl rfl)))), ?_, fun j hj h2 => ?_, own_chg h.turns c (fun g e => nt g (.inr (.inr (.inr (.inr e))))), ?_⟩
 ·have h1 := own_chg h.files c (fun g e => nt g (.inr (.inr (.inr (.inl e)))))
  have e : (X.ps.set i ((X.ps[i]).1, v)).map ptrV = X.ps.map ptrV := by
   rw [List.map_set]
   refine List.ext_getElem (by simp) fun k h3 h4 => ?_
   rw [List.getElem_set]
   split
   ·subst_vars; simp [ptrV]
   ·rfl
  simpa [e] using h1
 ·simp only [List.length_set] at hj h2
  simp only [List.getElem_set]
  split
  ·subst_vars; exact hf
  ·rename_i hne
   exact (h.file j hj h2).chg c (fun g hg hg' => a.each i j hi h2 hne g hg' hg)
 ·have hl := h.lt
  have hnd := h.nodup
  have e1 : X.ps.flatMap fileFoot = (X.ps.take i).flatMap fileFoot ++ (fileFoot X.ps[i] ++ (X.ps.drop (i + 1)).flatMap fileFoot) := by
   conv => lhs; rw [← List.take_append_drop i X.ps, List.flatMap_append, List.drop_eq_getElem_cons hi, List.flatMap_cons]
  have e2 : (X.ps.set i ((X.ps[i]).1, v)).flatMap fileFoot = (X.ps.take i).flatMap fileFoot ++ (fileFoot ((X.ps[i]).1, v) ++ (X.ps.drop (i + 1)).flatMap fileFoot) := by
   rw [List.set_eq_take_append_cons_drop, if_pos hi, List.flatMap_append, List.flatMap_cons]
  unfold Dw.foot at hl hnd ⊢
  simp only [e2]
  rw [e1] at hl hnd
  simp only [← List.append_assoc] at hl hnd ⊢
  simp only [List.append_assoc ([X.d] ++ [X.nb] ++ [X.lb] ++ X.fv.ownBlock.toList ++ X.tv.ownBlock.toList ++ (X.ps.take i).flatMap fileFoot)] at hl hnd ⊢
  refine nodup_swap hnd hl ?_ (fun x hx => ?_)
  ·unfold fileFoot
   simp only
   cases hvb : v.ownBlock with
   | none => simp
   | some g =>
    simp only [Option.toList_some, List.nodup_cons, List.mem_singleton, List.not_mem_nil, not_false_eq_true, List.nodup_nil, and_true]
    intro e
    rcases hv g hvb with h1 | h1
    ·exact a.self _ (List.getElem_mem hi) (by rw [h1, e])
    ·have := (h.file i (by have := h.flen; omega) hi).box.lt
     omega
  ·simp only [fileFoot, List.mem_cons, Option.mem_toList] at hx ⊢
   rcases hx with rfl | hx
   ·exact .inl (.inl rfl)
   ·rcases hv x hx with h1 | h1
    ·exact .inl (.inr h1)
    ·exact .inr h1
theorem DK.addFile {fv : Value} {b : Nat} (h : DK w X S) (hr : w'.ownsRow 0 120 1 fv (S.files.length + 1) ((X.ps ++ [(b, Value.slice none 0 0)]).map ptrV)) (hb0 : w.heap.size ≤ b) (hbv : fv.ownBlock ≠ some b)
  (hf : BoxO w' 123 b [.slice none 0 0, .int .i64 0]) (c : Chg ([X.d] ++ X.fv.ownBlock.toList) w w') (hv : ∀ g, fv.ownBlock = some g → X.fv.ownBlock = some g ∨ w.heap.size ≤ g)
  (hb : BoxO w' 105 X.d (({ X with fv := fv, ps := X.ps ++ [(b, Value.slice none 0 0)] } : Dw).cells { S with files := S.files ++ [([], 0)] })) : DK w' { X with fv := fv, ps := X.ps ++ [(b, Value.slice none 0 0)] } { S with files := S.files ++ [([], 0)] } := by
 have a := h.apart
 have nt : ∀ g, g ≠ X.d → X.fv.ownBlock ≠ some g → g ∉ [X.d] ++ X.fv.ownBlock.toList := fun g h1 h2 h3 => by
  rcases List.mem_append.1 h3 with h3 | h3
  ·exact h1 (by simpa using h3)
  ·exact h2 (by simpa using h3)
 have hfl := h.flen
 refine ⟨hb, map_chg h.names c (nt _ a.d_nb.symm (fun e => (a.fv _ e).2.1 rfl)), map_chg h.lasted c (nt _ a.d_lb.symm (fun e => (a.fv _ e).2.2.1 rfl)), by simpa using hr, fun j hj h2 => ?_,
  own_chg h.turns c (fun g e => nt g (a.tv g e).1 (a.tv g e).2.2.2), ?_⟩
 ·simp only [List.length_append, List.length_singleton] at hj h2
  rcases Nat.lt_or_ge j X.ps.length with h3 | h3
  ·simp only [List.getElem_append_left h3, List.getElem_append_left (show j < S.files.length by omega)]
   exact (h.file j (by omega) h3).chg c (fun g e => nt g (a.ps _ (List.getElem_mem h3) g e).1 (a.ps _ (List.getElem_mem h3) g e).2.2.2.1)
  ·have e1 : j = X.ps.length := by omega
   subst e1
   have e2 : (X.ps ++ [(b, Value.slice none 0 0)])[X.ps.length]'(by simp) = (b, Value.slice none 0 0) := by simp
   have e3 : (S.files ++ [(([] : List UInt8), 0)])[X.ps.length]'(by simp [hfl]) = ([], 0) := by simp [hfl]
   rw [e2, e3]
   exact ⟨hf, World.ownsRow_nil _ _ _ _⟩
 ·have hl := h.lt
  have hnd := h.nodup
  have hnew : (([X.d] ++ ([X.nb] ++ ([X.lb] ++ (fv.ownBlock.toList ++ (X.tv.ownBlock.toList ++ X.ps.flatMap fileFoot)))))).Nodup := by
   unfold Dw.foot at hl hnd
   simp only [← List.append_assoc] at hl hnd ⊢
   simp only [List.append_assoc ([X.d] ++ [X.nb] ++ [X.lb])] at hl hnd ⊢
   simp only [List.append_assoc X.fv.ownBlock.toList, List.append_assoc fv.ownBlock.toList] at hl hnd ⊢
   exact nodup_swap hnd hl (by cases fv.ownBlock <;> simp) (fun x hx => by simpa using hv x (by simpa using hx))
  unfold Dw.foot
  simp only [List.flatMap_append, List.flatMap_cons, List.flatMap_nil, List.append_nil]
  have e : fileFoot (b, Value.slice none 0 0) = [b] := by simp [fileFoot, Value.ownBlock]
  rw [e]
  simp only [← List.append_assoc] at hnew ⊢
  refine List.nodup_append.2 ⟨hnew, by simp, fun x hx y hy e0 => ?_⟩
  simp only [List.mem_singleton] at hy
  subst hy
  subst e0
  have hll : ∀ g ∈ X.foot, g ≠ x := fun g hg => by have := hl g hg; omega
  simp only [List.mem_append, List.mem_singleton, Option.mem_toList] at hx
  rcases hx with ((((hx | hx) | hx) | hx) | hx) | hx
  ·exact hll _ (mem_foot.2 (.inl rfl)) hx.symm
  ·exact hll _ (mem_foot.2 (.inr (.inl rfl))) hx.symm
  ·exact hll _ (mem_foot.2 (.inr (.inr (.inl rfl)))) hx.symm
  ·exact hbv hx
  ·exact hll _ (mem_foot.2 (.inr (.inr (.inr (.inr (.inl hx)))))) rfl
  ·obtain ⟨p, hp, hg⟩ := List.mem_flatMap.1 hx
   exact hll _ (mem_foot.2 (.inr (.inr (.inr (.inr (.inr ⟨p, hp, hg⟩)))))) rfl
end
section
open Go Go.RowKit Go.Maps
theorem base_add_ (g t : Nat) : (⟨g, 0, none⟩ : Addr).add t = ⟨g, t, none⟩ := by
 unfold Addr.add
 split
 ·subst_vars; rfl
 ·simp
theorem ret_bool {a b : Bool} (h : a = b) : Ending.returned (.bool a) = .returned (.bool b) := by rw [h]
theorem all_take {s : ByteArray} {k : Nat} (h : k < s.size) : (s.data.toList.take (k + 1)).all Sd.okCh = ((s.data.toList.take k).all Sd.okCh && Sd.okCh s[k]) := by
 rw [List.take_succ_eq_append_getElem (by simpa using h), List.all_append]
 simp
 rfl
theorem all_at {s : ByteArray} {k : Nat} (h : k < s.size) (hn : Sd.okCh s[k] = false) : s.data.toList.all Sd.okCh = false := by
 rw [List.all_eq_false]
 exact ⟨s[k], by
  have : s[k] = s.data.toList[k]'(by simpa using h) := rfl
  rw [this]
  exact List.getElem_mem _, by simp [hn]⟩
theorem named_any (s : ByteArray) (hs : s.size ≤ maxLen) (w : World) : Calls Tryz.prog 185 #[.string s] w fun e w' => e = .returned (.bool (Sd.named s.data.toList)) ∧ w = w' := by
 unfold maxLen at hs
 by_cases h1 : s.size < 1
 ·have he : Sd.named s.data.toList = false := by
   have : s.data.toList.length < 1 := by simpa using h1
   simp [Sd.named]
   omega
  rw [he]
  clear he
  go_enter Tryz.func185, Tryz.ntmps185
  go_wp2
  go_ret
  exact ⟨rfl, rfl⟩
 by_cases h2 : 16 < s.size
 ·have he : Sd.named s.data.toList = false := by
   have : 16 < s.data.toList.length := by simpa using h2
   simp [Sd.named]
   omega
  rw [he]
  clear he
  go_enter Tryz.func185, Tryz.ntmps185
  go_wp2
  go_ret
  exact ⟨rfl, rfl⟩
 have he : Sd.named s.data.toList = s.data.toList.all Sd.okCh := by
  have : s.data.toList.length = s.size := by simp
  simp only [Sd.named, this]
  rw [decide_eq_true (by omega), decide_eq_true (by omega)]
  rfl
 rw [he]
 clear he
 obtain ⟨R, hR⟩ : ∃ R, R = s.data.toList.all Sd.okCh := ⟨_, rfl⟩
 rw [← hR]
 have HR := Lib.hid hR
 clear hR
 go_enter Tryz.func185, Tryz.ntmps185
 go_wp2
 go_loop [15] (fun i => ∃ k : Nat, k ≤ s.size ∧ i = .int .i64 (k : Int) ∧ (s.data.toList.take k).all Sd.okCh = true) (fun i => s.size - (intOf i).toNat)
 case atStart => exact ⟨0, Nat.zero_le _, rfl, rfl⟩
 case round =>
  obtain ⟨k, hk, rfl, hal⟩ := hrel
  have HA := Lib.hid hal
  clear hal
  by_cases hlt : k < s.size
  ·cases hch : Sd.okCh s[k] with
   | true =>
    have HT : Hid ((s.data.toList.take (k + 1)).all Sd.okCh = true) := Lib.hid (by rw [all_take hlt, HA.out, hch]; rfl)
    simp only [Sd.okCh, Bool.or_eq_true, Bool.and_eq_true, decide_eq_true_eq] at hch
    rcases hch with (⟨c1, c2⟩ | ⟨c1, c2⟩) | c1
    ·have e1 : ((s[k].toNat : Int) < 97) = False := by simp; omega
     have e2 : ((122 : Int) < (s[k].toNat : Int)) = False := by simp; omega
     clear c1 c2
     go_wp2
     go_round
     case rel => exact ⟨k + 1, by omega, by go_num, HT.out⟩
     case measure => simp [intOf]; omega
    ·have e1 : ((s[k].toNat : Int) < 97) := by omega
     have e2 : ((s[k].toNat : Int) < 48) = False := by simp; omega
     have e3 : ((57 : Int) < (s[k].toNat : Int)) = False := by simp; omega
     clear c1 c2
     go_wp2
     go_round
     case rel => exact ⟨k + 1, by omega, by go_num, HT.out⟩
     case measure => simp [intOf]; omega
    ·have e1 : ((s[k].toNat : Int) < 97) := by omega
     have e2 : ((s[k].toNat : Int) < 48) := by omega
     have e3 : ((s[k].toNat : Int) == 46) = true := by simp [c1]
     have e4 : ((s[k].toNat : Int) != 46) = false := by simp [bne, e3]
     clear c1
     go_wp2
     go_round
     case rel => exact ⟨k + 1, by omega, by go_num, HT.out⟩
     case measure => simp [intOf]; omega
   | false =>
    have HF := Lib.hid (all_at hlt hch)
    simp only [Sd.okCh, Bool.or_eq_false_iff, Bool.and_eq_false_iff, decide_eq_false_iff_not] at hch
    obtain ⟨⟨c1, c2⟩, c3⟩ := hch
    have e3 : ((s[k].toNat : Int) == 46) = false := by simp; omega
    have e4 : ((s[k].toNat : Int) != 46) = true := by simp [bne, e3]
    by_cases d1 : s[k].toNat < 48
    ·have e1 : ((s[k].toNat : Int) < 97) := by omega
     have e2 : ((s[k].toNat : Int) < 48) := by omega
     clear c1 c2 c3 d1
     go_wp2
     go_ret
     exact ⟨ret_bool (HR.out.trans HF.out).symm, rfl⟩
    by_cases d2 : s[k].toNat < 97
    ·have e1 : ((s[k].toNat : Int) < 97) := by omega
     have e2 : ((s[k].toNat : Int) < 48) = False := by simp; omega
     have e5 : ((57 : Int) < (s[k].toNat : Int)) := by omega
     clear c1 c2 c3 d1 d2
     go_wp2
     go_ret
     exact ⟨ret_bool (HR.out.trans HF.out).symm, rfl⟩
    have e1 : ((s[k].toNat : Int) < 97) = False := by simp; omega
    have e2 : ((122 : Int) < (s[k].toNat : Int)) := by omega
    have e6 : ((s[k].toNat : Int) < 48) = False := by simp; omega
    have e5 : ((57 : Int) < (s[k].toNat : Int)) := by omega
    clear c1 c2 c3 d1 d2
    go_wp2
    go_ret
    exact ⟨ret_bool (HR.out.trans HF.out).symm, rfl⟩
  ·have ha : s.data.toList.all Sd.okCh = true := by
    have := HA.out
    rwa [List.take_of_length_le (by simp; omega)] at this
   have HF := Lib.hid ha
   clear ha
   go_wp2
   go_ret
   exact ⟨ret_bool (HR.out.trans HF.out).symm, rfl⟩
theorem dead_any (X : Nat) (b : Bool) (w : World) (h : w.cell? ⟨X, 6, none⟩ = some (.bool b)) : Calls Tryz.prog 60 #[.pointer (some ⟨X, 0, none⟩)] w fun e w' => e = .returned (.bool b) ∧ w = w' := by
 go_enter Tryz.func60, Tryz.ntmps60
 go_wp2
 go_ret
 exact ⟨rfl, rfl⟩
theorem zeroInt (w : World) : (zeroValue 3).run Tryz.prog w = .ok (.int .i64 0) w := by kernel_rfl
theorem law_s : Keyed Tryz.prog 9 := Maps.string_keyed Tryz.underlying9
theorem key_s {s : ByteArray} (hs : s.size ≤ maxLen) : keyOf Tryz.prog 9 (.string s) = some (.string s.data.toList) := Go.WideMaps.keyOf_string_mk Tryz.underlying9 hs
theorem DK.fileAt {w : World} {X : Dw} {S : Sd} (h : DK w X S) {i : Nat} (hi : i < S.files.length) : ∃ g cap, X.fv = .slice (some ⟨g, 0, none⟩) S.files.length cap ∧ w.cell? ⟨g, i, none⟩ = some (ptrV (X.ps.getD i (0, Go.undef))) ∧ S.files.length ≤ 9223372036854775807 := by
 have hip : i < X.ps.length := by rw [h.flen]; exact hi
 have hfil := h.files
 obtain ⟨g, cap, hg1⟩ : ∃ g cap, X.fv = .slice (some ⟨g, 0, none⟩) S.files.length cap := by
  rcases hfil.2 with ⟨_, h0⟩ | ⟨g, cap, cur, hv, _⟩
  ·omega
  ·exact ⟨g, cap, hv⟩
 have hbig : S.files.length ≤ 9223372036854775807 := by
  obtain ⟨A, c, e, h1, h2, _⟩ := own_form hfil
  unfold maxLen at h2
  omega
 rw [hg1] at hfil
 have hcell := hfil.cells (g := g) rfl i (ptrV (X.ps.getD i (0, Go.undef))) (by simp [List.getD_eq_getElem?_getD, hip])
 rw [base_add_] at hcell
 exact ⟨g, cap, hg1, hcell, hbig⟩
theorem find_any (X : Dw) (S : Sd) (s : ByteArray) (hs : s.size ≤ maxLen) (w : World) (h : DK w X S) (hl : Sd.Leads S.names S.files.length) :
  Calls Tryz.prog 158 #[.pointer (some ⟨X.d, 0, none⟩), .string s] w fun e w' => e = .returned (match S.names.get s.data.toList with
   | none => .pointer none
   | some i => ptrV (X.ps.getD i (0, Go.undef))) ∧ w = w' := by
 have hbox := h.box
 have d2 := hbox.cell 2
 have d1 := hbox.cell 1
 simp only [Dw.cells, gE0, gE1] at d1 d2
 have hkey := key_s hs
 have hn := h.names
 have hhas := Nm.enc_has S.names s.data.toList
 cases hg : S.names.get s.data.toList with
 | some i =>
  have hi := hl _ (Nm.get_mem hg)
  simp only at hi
  obtain ⟨g, cap, hfv, hcell, hbig⟩ := h.fileAt hi
  have hi' : (i : Int) < (S.files.length : Int) := by omega
  rw [hfv] at d1
  rw [hg] at hhas
  have HH := Lib.hid hhas
  have HA := Lib.hid (fun z => Nm.enc_at S.names s.data.toList z hg)
  clear hhas hfv hg
  go_enter Tryz.func158, Tryz.ntmps158
  go_wp2_with (at_lookup; refine wpList_lookup_own_ok_int _ rfl _ _ 101 rfl 9 3 .i64 law_s Tryz.underlying101 Tryz.underlying3 (zeroInt _) X.nb _ _ rfl hn _ _ rfl hkey ?_; intro c hat hwc; rw [HA.out] at hat; injection hat with hat; injection hat with _ hat; subst hat; rw [HH.out])
  go_wp2
  go_ret
  exact ⟨rfl, rfl⟩
 | none =>
  rw [hg] at hhas
  have HH := Lib.hid hhas
  clear hhas hg
  go_enter Tryz.func158, Tryz.ntmps158
  go_wp2_with (at_lookup; refine wpList_lookup_own_ok_int _ rfl _ _ 101 rfl 9 3 .i64 law_s Tryz.underlying101 Tryz.underlying3 (zeroInt _) X.nb _ _ rfl hn _ _ rfl hkey ?_; intro c hat hwc; rw [HH.out])
  go_wp2
  go_ret
  exact ⟨rfl, rfl⟩
end
section
open Go Go.RowKit Go.Maps
def strs (ss : List ByteArray) : List Value := ss.map Value.string
theorem strs_get (ss : List ByteArray) (k : Nat) : (strs ss)[k]? = (ss[k]?).map Value.string := by simp [strs]
theorem Row.st {B n : Nat} {w : World} {A : Option Addr} {ss : List ByteArray} (h : Row B w A n 1 (strs ss)) {k : Nat} (hk : k < n) : ∃ a, ∃ hl : k < ss.length, A = some a ∧ a.block < B ∧ w.cell? (a.add k) = some (.string ss[k]) := by
 obtain ⟨a, v, e, hb, hv, hc⟩ := h.at1 hk
 have hl : k < ss.length := by
  have := h.len
  simp [strs] at this
  omega
 rw [strs_get, List.getElem?_eq_getElem hl] at hv
 injection hv with hv
 subst hv
 exact ⟨a, hl, e, hb, hc⟩
theorem add64_any (g : Nat) (j : Nat) (c : Int) (w : World) (h : w.cell? ⟨g, j, none⟩ = some (.int .i64 c)) (hf : w.frozen? ⟨g, j, none⟩ = false) :
  Calls Tryz.prog 85 #[.pointer (some ⟨g, j, none⟩), .int .i64 1] w fun e w' => ∃ v, e = .returned v ∧ w' = w.setCell ⟨g, j, none⟩ (.int .i64 (wrap64 (c + 1))) := by
 have hadd := run_call_add (P := Tryz.prog) Tryz.func160 (by kernel_rfl) (by kernel_rfl) (by kernel_rfl) .i64 (by kernel_rfl) (y := 1) (s := wrap64 (c + 1)) h hf (by simp [go_sem, IntKind.wrap_i64, wrap64])
 go_enter Tryz.func85, Tryz.ntmps85
 go_wp2
 go_ret
 exact ⟨_, rfl, rfl⟩
def texts (ss : List ByteArray) : List (List UInt8) := ss.map fun s => s.data.toList
theorem texts_take {ss : List ByteArray} {k : Nat} (h : k < ss.length) : (texts (ss.take (k + 1))).all Sd.named = ((texts (ss.take k)).all Sd.named && Sd.named (ss[k]).data.toList) := by
 unfold texts
 rw [List.take_succ_eq_append_getElem h, List.map_append, List.all_append]
 simp
theorem texts_at {ss : List ByteArray} {k : Nat} (h : k < ss.length) (hn : Sd.named (ss[k]).data.toList = false) : (texts ss).all Sd.named = false := by
 rw [List.all_eq_false]
 exact ⟨_, List.mem_map.2 ⟨ss[k], List.getElem_mem h, rfl⟩, by simp [hn]⟩
theorem call_any (X : Dw) (S : Sd) (A : Option Addr) (n c : Nat) (ss : List ByteArray) (hn : n ≤ 1000) (hss : ∀ s ∈ ss, s.size ≤ maxLen) (hst : S.stop ≤ 9223372036854775807) (hfa : S.fail ≤ 9223372036854775807) (w : World) (h : DK w X S) (hr : Row w.heap.size w A n 1 (strs ss)) :
  Calls Tryz.prog 157 #[.pointer (some ⟨X.d, 0, none⟩), .slice A n c] w fun e w' => e = .returned (.int .i64 ((S.call (texts ss)).2 : Int)) ∧ DK w' X (S.call (texts ss)).1 ∧ Chg [X.d] w w' := by
 have hbox := h.box
 have HSS := Lib.hid hss
 clear hss
 have hsl : ss.length = n := by simpa [strs] using hr.len
 obtain ⟨S', hS'⟩ : ∃ S', S' = (S.call (texts ss)).1 := ⟨_, rfl⟩
 obtain ⟨er, her⟩ : ∃ er, er = (S.call (texts ss)).2 := ⟨_, rfl⟩
 rw [← hS', ← her]
 have HS := Lib.hid hS'
 have HE := Lib.hid her
 clear hS' her
 have HSL := Lib.hid hsl
 clear hsl
 go_enter Tryz.func157, Tryz.ntmps157
 go_wp2
 go_loop [9] (fun i => ∃ k : Nat, k ≤ n ∧ i = .int .i64 (k : Int) ∧ Hid ((texts (ss.take k)).all Sd.named = true)) (fun i => n - (intOf i).toNat)
 case atStart => exact ⟨0, Nat.zero_le _, rfl, rfl⟩
 case round =>
  obtain ⟨k, hk, rfl, HA⟩ := hrel
  by_cases hlt : k < n
  ·obtain ⟨a, hl, rfl, _, hcl⟩ := hr.st hlt
   have hnm := HSS.out ss[k] (List.getElem_mem hl)
   have HT := texts_take hl
   have HF := @texts_at ss k hl
   generalize ss[k] = s at *
   go_wp2_with fail
   cases hch : Sd.named s.data.toList with
   | true =>
    have HT2 : Hid ((texts (ss.take (k + 1))).all Sd.named = true) := by
     have h1 := HA.out
     show _ = true
     rw [HT, h1, hch]
     rfl
    clear HT HF
    refine (named_any s hnm w).mono ?_
    rintro e w1 ⟨rfl, rfl⟩
    rw [hch]
    clear hch
    go_wp2
    go_round
    case rel => exact ⟨k + 1, by omega, by go_num, HT2⟩
    case measure => simp [intOf]; omega
   | false =>
    have hbad := HF hch
    have e1 : er = 10 := by rw [show er = _ from HE.out]; simp [Sd.call, hbad]
    have e2 : S' = S := by rw [show S' = _ from HS.out]; simp [Sd.call, hbad]
    clear HT HF hbad
    subst e1 e2
    refine (named_any s hnm w).mono ?_
    rintro e w1 ⟨rfl, rfl⟩
    rw [hch]
    clear hch
    go_wp2
    go_ret
    exact ⟨rfl, h, Chg.refl _ _⟩
  ·have hall : (texts ss).all Sd.named = true := by
    have h1 := HA.out
    have h2 := HSL.out
    rwa [List.take_of_length_le (by omega)] at h1
   go_wp2_with fail
   refine (add64_any X.d 5 S.calls w (by rw [hbox.cell 5]; rfl) (hbox.free 5)).mono ?_
   rintro e w1 ⟨v, rfl, rfl⟩
   have hbox1 := hbox.store 5 (.int .i64 (wrap64 (S.calls + 1)))
   have hchg := chg_set w ⟨X.d, 5, none⟩ (.int .i64 (wrap64 (S.calls + 1)))
   generalize hV : w.setCell ⟨X.d, 5, none⟩ (.int .i64 (wrap64 (S.calls + 1))) = V at *
   clear hV hbox
   have d7 := hbox1.cell 7
   have d8 := hbox1.cell 8
   have d6 := hbox1.cell 6
   have f6 := hbox1.free 6
   have f7 := hbox1.free 7
   have f8 := hbox1.free 8
   simp only [Dw.cells, gE0, gE1, List.set_cons_succ, List.set_cons_zero] at d6 d7 d8
   have hdead := dead_any X.d S.dead V (by rw [hbox1.cell 6]; rfl)
   have key := fun (S2 : Sd) (w2 : World) (hc : Chg [X.d] V w2) (hb : BoxO w2 105 X.d (X.cells S2)) (e1 : S2.names = S.names) (e2 : S2.lasted = S.lasted) (e3 : S2.files = S.files) (e4 : S2.turns = S.turns) => (⟨h.rebox (hchg.trans hc (fun g hg => .inl hg)) hb e1 e2 e3 e4, hchg.trans hc (fun g hg => .inl hg)⟩ : DK w2 X S2 ∧ Chg [X.d] w w2)
   have hX : ∀ b : Bool, (texts ss).all Sd.named = false → b = false := fun _ h => by rw [hall] at h; cases h
   clear hX
   cases hde : S.dead with
   | true =>
    rw [hde] at hdead
    have e1 : er = 50 := by rw [show er = _ from HE.out]; simp [Sd.call, hall, hde]
    have e2 : S' = { S with calls := wrap64 (S.calls + 1) } := by rw [show S' = _ from HS.out]; simp [Sd.call, hall, hde]
    have kk := key S' V (Chg.refl _ _) (by rw [e2]; exact hbox1) (by rw [e2]) (by rw [e2]) (by rw [e2]) (by rw [e2])
    have HK := Lib.hid kk
    clear e2 kk key hall hde h hchg
    subst e1
    go_wp2_with fail
    refine hdead.mono ?_
    rintro e w1 ⟨rfl, rfl⟩
    go_wp2
    go_ret
    exact ⟨rfl, HK.out⟩
   | false =>
    rw [hde] at hdead
    obtain ⟨q, fs, nm, la, tu, ca, de, st, fa⟩ := S
    simp only at *
    subst hde
    have hcall := fun (a : Sd × Nat) (hh : Sd.call ⟨q, fs, nm, la, tu, ca, false, st, fa⟩ (texts ss) = a) => (⟨HS.out.trans (congrArg Prod.fst hh), HE.out.trans (congrArg Prod.snd hh)⟩ : S' = a.1 ∧ er = a.2)
    rcases Nat.lt_or_ge 0 st with s0 | s0
    ·rcases Nat.lt_or_ge 1 st with s1 | s1
     ·have t1 : ((st : Int) - 1 == 0) = false := by simp; omega
      rcases Nat.lt_or_ge 0 fa with a0 | a0
      ·rcases Nat.lt_or_ge 1 fa with a1 | a1
       ·have t2 : ((fa : Int) - 1 == 0) = false := by simp; omega
        obtain ⟨g1, g2⟩ := hcall (⟨q, fs, nm, la, tu, wrap64 (ca + 1), false, st - 1, fa - 1⟩, 0) (by simp [Sd.call, hall, show ¬(st - 1 = 0) by omega, s0, show ¬(fa - 1 = 0) by omega, a0])
        have e1 : ((st - 1 : Nat) : Int) = (st : Int) - 1 := by omega
        have e2 : ((fa - 1 : Nat) : Int) = (fa : Int) - 1 := by omega
        have kk := key S' (((V.setCell ⟨X.d, 7, none⟩ (.int .i64 ((st : Int) - 1))).setCell ⟨X.d, 6, none⟩ (.bool false)).setCell ⟨X.d, 8, none⟩ (.int .i64 ((fa : Int) - 1))) ((((Chg.refl _ _).setCell _ (.inl (by simp))).setCell _ (.inl (by simp))).setCell _ (.inl (by simp))) (by
         rw [g1, Dw.cells]
         simp only [e1, e2]
         exact (((hbox1.store 7 (.int .i64 ((st : Int) - 1))).store 6 (.bool false)).store 8 (.int .i64 ((fa : Int) - 1)))) (by rw [g1]) (by rw [g1]) (by rw [g1]) (by rw [g1])
        have HK := Lib.hid kk
        simp only at g2
        clear g1 kk key hall h hchg hcall e1 e2
        subst g2
        go_wp2_with fail
        refine hdead.mono ?_
        rintro e w1 ⟨rfl, rfl⟩
        go_wp2
        go_ret
        exact ⟨rfl, HK.out⟩
       ·obtain rfl : fa = 1 := by omega
        obtain ⟨g1, g2⟩ := hcall (⟨q, fs, nm, la, tu, wrap64 (ca + 1), false, st - 1, 0⟩, 15) (by simp [Sd.call, hall, show ¬(st - 1 = 0) by omega, s0])
        have e1 : ((st - 1 : Nat) : Int) = (st : Int) - 1 := by omega
        have kk := key S' (((V.setCell ⟨X.d, 7, none⟩ (.int .i64 ((st : Int) - 1))).setCell ⟨X.d, 6, none⟩ (.bool false)).setCell ⟨X.d, 8, none⟩ (.int .i64 0)) ((((Chg.refl _ _).setCell _ (.inl (by simp))).setCell _ (.inl (by simp))).setCell _ (.inl (by simp))) (by
         rw [g1, Dw.cells]
         simp only [e1]
         exact (((hbox1.store 7 (.int .i64 ((st : Int) - 1))).store 6 (.bool false)).store 8 (.int .i64 0))) (by rw [g1]) (by rw [g1]) (by rw [g1]) (by rw [g1])
        have HK := Lib.hid kk
        simp only at g2
        clear g1 kk key hall h hchg hcall e1
        subst g2
        go_wp2_with fail
        refine hdead.mono ?_
        rintro e w1 ⟨rfl, rfl⟩
        go_wp2
        go_ret
        exact ⟨rfl, HK.out⟩
      ·obtain rfl : fa = 0 := by omega
       obtain ⟨g1, g2⟩ := hcall (⟨q, fs, nm, la, tu, wrap64 (ca + 1), false, st - 1, 0⟩, 0) (by simp [Sd.call, hall, show ¬(st - 1 = 0) by omega, s0])
       have e1 : ((st - 1 : Nat) : Int) = (st : Int) - 1 := by omega
       have kk := key S' ((V.setCell ⟨X.d, 7, none⟩ (.int .i64 ((st : Int) - 1))).setCell ⟨X.d, 6, none⟩ (.bool false)) (((Chg.refl _ _).setCell _ (.inl (by simp))).setCell _ (.inl (by simp))) (by
        rw [g1, Dw.cells]
        simp only [e1]
        exact ((hbox1.store 7 (.int .i64 ((st : Int) - 1))).store 6 (.bool false))) (by rw [g1]) (by rw [g1]) (by rw [g1]) (by rw [g1])
       have HK := Lib.hid kk
       simp only at g2
       clear g1 kk key hall h hchg hcall e1
       subst g2
       go_wp2_with fail
       refine hdead.mono ?_
       rintro e w1 ⟨rfl, rfl⟩
       go_wp2
       go_ret
       exact ⟨rfl, HK.out⟩
     ·obtain rfl : st = 1 := by omega
      rcases Nat.lt_or_ge 0 fa with a0 | a0
      ·rcases Nat.lt_or_ge 1 fa with a1 | a1
       ·have t2 : ((fa : Int) - 1 == 0) = false := by simp; omega
        obtain ⟨g1, g2⟩ := hcall (⟨q, fs, nm, la, tu, wrap64 (ca + 1), true, 0, fa - 1⟩, 0) (by simp [Sd.call, hall, show ¬(fa - 1 = 0) by omega, a0])
        have e2 : ((fa - 1 : Nat) : Int) = (fa : Int) - 1 := by omega
        have kk := key S' (((V.setCell ⟨X.d, 7, none⟩ (.int .i64 0)).setCell ⟨X.d, 6, none⟩ (.bool true)).setCell ⟨X.d, 8, none⟩ (.int .i64 ((fa : Int) - 1))) ((((Chg.refl _ _).setCell _ (.inl (by simp))).setCell _ (.inl (by simp))).setCell _ (.inl (by simp))) (by
         rw [g1, Dw.cells]
         simp only [e2]
         exact (((hbox1.store 7 (.int .i64 0)).store 6 (.bool true)).store 8 (.int .i64 ((fa : Int) - 1)))) (by rw [g1]) (by rw [g1]) (by rw [g1]) (by rw [g1])
        have HK := Lib.hid kk
        simp only at g2
        clear g1 kk key hall h hchg hcall e2
        subst g2
        go_wp2_with fail
        refine hdead.mono ?_
        rintro e w1 ⟨rfl, rfl⟩
        go_wp2
        go_ret
        exact ⟨rfl, HK.out⟩
       ·obtain rfl : fa = 1 := by omega
        obtain ⟨g1, g2⟩ := hcall (⟨q, fs, nm, la, tu, wrap64 (ca + 1), true, 0, 0⟩, 15) (by simp [Sd.call, hall])
        have kk := key S' (((V.setCell ⟨X.d, 7, none⟩ (.int .i64 0)).setCell ⟨X.d, 6, none⟩ (.bool true)).setCell ⟨X.d, 8, none⟩ (.int .i64 0)) ((((Chg.refl _ _).setCell _ (.inl (by simp))).setCell _ (.inl (by simp))).setCell _ (.inl (by simp))) (by
         rw [g1, Dw.cells]
         exact (((hbox1.store 7 (.int .i64 0)).store 6 (.bool true)).store 8 (.int .i64 0))) (by rw [g1]) (by rw [g1]) (by rw [g1]) (by rw [g1])
        have HK := Lib.hid kk
        simp only at g2
        clear g1 kk key hall h hchg hcall
        subst g2
        go_wp2_with fail
        refine hdead.mono ?_
        rintro e w1 ⟨rfl, rfl⟩
        go_wp2
        go_ret
        exact ⟨rfl, HK.out⟩
      ·obtain rfl : fa = 0 := by omega
       obtain ⟨g1, g2⟩ := hcall (⟨q, fs, nm, la, tu, wrap64 (ca + 1), true, 0, 0⟩, 0) (by simp [Sd.call, hall])
       have kk := key S' ((V.setCell ⟨X.d, 7, none⟩ (.int .i64 0)).setCell ⟨X.d, 6, none⟩ (.bool true)) (((Chg.refl _ _).setCell _ (.inl (by simp))).setCell _ (.inl (by simp))) (by
        rw [g1, Dw.cells]
        exact ((hbox1.store 7 (.int .i64 0)).store 6 (.bool true))) (by rw [g1]) (by rw [g1]) (by rw [g1]) (by rw [g1])
       have HK := Lib.hid kk
       simp only at g2
       clear g1 kk key hall h hchg hcall
       subst g2
       go_wp2_with fail
       refine hdead.mono ?_
       rintro e w1 ⟨rfl, rfl⟩
       go_wp2
       go_ret
       exact ⟨rfl, HK.out⟩
    ·obtain rfl : st = 0 := by omega
     rcases Nat.lt_or_ge 0 fa with a0 | a0
     ·rcases Nat.lt_or_ge 1 fa with a1 | a1
      ·have t2 : ((fa : Int) - 1 == 0) = false := by simp; omega
       obtain ⟨g1, g2⟩ := hcall (⟨q, fs, nm, la, tu, wrap64 (ca + 1), false, 0, fa - 1⟩, 0) (by simp [Sd.call, hall, show ¬(fa - 1 = 0) by omega, a0])
       have e2 : ((fa - 1 : Nat) : Int) = (fa : Int) - 1 := by omega
       have kk := key S' (V.setCell ⟨X.d, 8, none⟩ (.int .i64 ((fa : Int) - 1))) ((Chg.refl _ _).setCell _ (.inl (by simp))) (by
        rw [g1, Dw.cells]
        simp only [e2]
        exact (hbox1.store 8 (.int .i64 ((fa : Int) - 1)))) (by rw [g1]) (by rw [g1]) (by rw [g1]) (by rw [g1])
       have HK := Lib.hid kk
       simp only at g2
       clear g1 kk key hall h hchg hcall e2
       subst g2
       go_wp2_with fail
       refine hdead.mono ?_
       rintro e w1 ⟨rfl, rfl⟩
       go_wp2
       go_ret
       exact ⟨rfl, HK.out⟩
      ·obtain rfl : fa = 1 := by omega
       obtain ⟨g1, g2⟩ := hcall (⟨q, fs, nm, la, tu, wrap64 (ca + 1), false, 0, 0⟩, 15) (by simp [Sd.call, hall])
       have kk := key S' (V.setCell ⟨X.d, 8, none⟩ (.int .i64 0)) ((Chg.refl _ _).setCell _ (.inl (by simp))) (by
        rw [g1, Dw.cells]
        exact (hbox1.store 8 (.int .i64 0))) (by rw [g1]) (by rw [g1]) (by rw [g1]) (by rw [g1])
       have HK := Lib.hid kk
       simp only at g2
       clear g1 kk key hall h hchg hcall
       subst g2
       go_wp2_with fail
       refine hdead.mono ?_
       rintro e w1 ⟨rfl, rfl⟩
       go_wp2
       go_ret
       exact ⟨rfl, HK.out⟩
     ·obtain rfl : fa = 0 := by omega
      obtain ⟨g1, g2⟩ := hcall (⟨q, fs, nm, la, tu, wrap64 (ca + 1), false, 0, 0⟩, 0) (by simp [Sd.call, hall])
      have kk := key S' V (Chg.refl _ _) (by
       rw [g1, Dw.cells]
       exact hbox1) (by rw [g1]) (by rw [g1]) (by rw [g1]) (by rw [g1])
      have HK := Lib.hid kk
      simp only at g2
      clear g1 kk key hall h hchg hcall
      subst g2
      go_wp2_with fail
      refine hdead.mono ?_
      rintro e w1 ⟨rfl, rfl⟩
      go_wp2
      go_ret
      exact ⟨rfl, HK.out⟩
end
section
open Go Go.RowKit Go.Maps
def sumL (f : DataW Unit → Nat) (left : Lit → Bool) (es : List (Lit × DataW Unit)) : Nat := ((es.filter fun p => !left p.1).map fun p => f p.2).sum
theorem sumL_step (f : DataW Unit → Nat) (left : Lit → Bool) : ∀ (es : List (Lit × DataW Unit)), es.Pairwise (fun p q => p.1 ≠ q.1) → (∀ p ∈ es, WideAt.IsKeyLit p.1) → ∀ p0 ∈ es, left p0.1 = true → sumL f (fun z => left z && !z.sameKey p0.1) es = sumL f left es + f p0.2
 | [], _, _, p0, h, _ => by cases h
 | q :: r, hp, hk, p0, h, hl => by
  obtain ⟨h1, h2⟩ := List.pairwise_cons.1 hp
  rcases List.mem_cons.1 h with rfl | h
  ·have e1 : sumL f (fun z => left z && !z.sameKey p0.1) r = sumL f left r := by
    unfold sumL
    congr 2
    apply List.filter_congr
    intro x hx
    have e := Maps.sameKey_ne (h1 x hx).symm
    simp [e]
   have e2 := WideAt.sameKey_self (hk p0 (by simp))
   have e3 : sumL f (fun z => left z && !z.sameKey p0.1) (p0 :: r) = f p0.2 + sumL f (fun z => left z && !z.sameKey p0.1) r := by simp [sumL, e2]
   have e4 : sumL f left (p0 :: r) = sumL f left r := by simp [sumL, hl]
   omega
  ·have ih := sumL_step f left r h2 (fun p hp' => hk p (by simp [hp'])) p0 h hl
   have e1 : q.1.sameKey p0.1 = false := Maps.sameKey_ne (h1 p0 h)
   have e3 : sumL f (fun z => left z && !z.sameKey p0.1) (q :: r) = (if left q.1 = true then 0 else f q.2) + sumL f (fun z => left z && !z.sameKey p0.1) r := by
    cases hq : left q.1 <;> simp [sumL, e1, hq]
   have e4 : sumL f left (q :: r) = (if left q.1 = true then 0 else f q.2) + sumL f left r := by
    cases hq : left q.1 <;> simp [sumL, hq]
   omega
theorem sumL_le (f : DataW Unit → Nat) (left : Lit → Bool) : ∀ es : List (Lit × DataW Unit), sumL f left es ≤ (es.map fun p => f p.2).sum
 | [] => by simp [sumL]
 | q :: r => by
  have ih := sumL_le f left r
  have e4 : sumL f left (q :: r) = (if left q.1 = true then 0 else f q.2) + sumL f left r := by
   cases hq : left q.1 <;> simp [sumL, hq]
  simp only [List.map_cons, List.sum_cons]
  split at e4 <;> omega
theorem sumL_all (f : DataW Unit → Nat) (left : Lit → Bool) (es : List (Lit × DataW Unit)) (h : ∀ k, left k = false) : sumL f left es = (es.map fun p => f p.2).sum := by
 unfold sumL
 rw [List.filter_eq_self.2 (fun p _ => by simp [h])]
theorem sumL_none (f : DataW Unit → Nat) (left : Lit → Bool) (es : List (Lit × DataW Unit)) (h : ∀ p ∈ es, left p.1 = true) : sumL f left es = 0 := by
 unfold sumL
 rw [List.filter_eq_nil_iff.2 (fun p hp => by simp [h p hp])]
 rfl
def key (s : ByteArray) : Lit := .string s.data.toList
theorem keyOf_string_inv_ {k : Value} {kl : Lit} (h : keyOf Tryz.prog 9 k = some kl) : ∃ s, k = .string s ∧ kl = key s := by
 obtain ⟨s, e1, e2, _⟩ := Go.WideMaps.string_of_keyOf Tryz.underlying9 h
 exact ⟨s, e1, e2⟩
def lenOf (fs : List (List UInt8 × Nat)) (x : DataW Unit) : Nat := match x with
 | .lit (.int _ c) => (fs.getD c.toNat ([], 0)).1.length
 | _ => 0
theorem used_eq (S : Sd) : S.used = ((S.names.map Nm.lit1).map fun p => lenOf S.files p.2).sum := by
 unfold Sd.used
 rw [List.map_map]
 rfl
theorem used_le {S : Sd} (h : ∀ i, S.size i ≤ 250000) : S.used ≤ S.names.length * 250000 := by
 unfold Sd.used
 generalize S.names = m
 induction m with
 | nil => simp
 | cons p r ih =>
  have := h p.2
  simp only [List.map_cons, List.sum_cons, List.length_cons]
  omega
theorem used_any (X : Dw) (S : Sd) (w : World) (h : DK w X S) (hl : Sd.Leads S.names S.files.length) (hu : S.used ≤ 1099511627776) :
  Calls Tryz.prog 159 #[.pointer (some ⟨X.d, 0, none⟩)] w fun e w' => e = .returned (.int .i64 (S.used : Int)) ∧ Below w.heap.size w w' := by
 have hbox := h.box
 have d2 := hbox.cell 2
 simp only [Dw.cells, gE0, gE1] at d2
 have hnm := h.names
 obtain ⟨es, hes0, hpw, hkl⟩ := hnm.entries law_s
 have hes : es = S.names.map Nm.lit1 := by
  unfold Nm.enc at hes0
  injection hes0 with hes0
  exact hes0.symm
 clear hes0
 have hus : S.used = (es.map fun p => lenOf S.files p.2).sum := by rw [hes, used_eq]
 have HES := Lib.hid hes
 obtain ⟨U, hU⟩ : ∃ U, U = S.used := ⟨_, rfl⟩
 rw [← hU] at hus hu ⊢
 have HUS := Lib.hid hus
 clear hus hes hU
 obtain ⟨M, hM⟩ : ∃ M, M = Nm.enc S.names := ⟨_, rfl⟩
 have hown : w.ownsMap Tryz.prog 9 (plainElem (H := Unit) Tryz.prog 3) X.nb S.names.length M := by rw [hM]; exact hnm
 have HM : Hid (M = .map es) := by rw [hM, HES.out]; exact rfl
 have HMN := Lib.hid hM
 clear hM hnm
 go_enter Tryz.func159, Tryz.ntmps159
 go_wp2_with (first
  | (at_range; refine wpList_range_own _ rfl _ 101 rfl 9 3 law_s Tryz.underlying101 _ X.nb _ M rfl hown ?_; intro w0 hrg0 hg0 hs0)
  | go_in)
 go_frame
 have hb0 : Below w.heap.size w w0 := (Below.refl _ _).grown hg0 (Nat.le_refl _) (fun k hk => by cases hk)
 go_loopw [3] (fun s wr => ∃ (left : Lit → Bool) (cnt : Nat), s = .int .i64 (sumL (lenOf S.files) left es : Int) ∧ wr.ranges Tryz.prog 9 (plainElem (H := Unit) Tryz.prog 3) X.nb w.heap.size S.names.length M left cnt ∧ Below w.heap.size w wr) (fun _ wr => wr.rangeLeft X.nb w.heap.size)
 case atStart =>
  refine ⟨_, _, ?_, hrg0, hb0⟩
  rw [sumL_none _ _ _ (fun p hp => by
   rw [HM.out, Maps.has_eq, List.any_eq_true]
   exact ⟨p, hp, WideAt.sameKey_self (hkl p hp)⟩)]
  rfl
 case round =>
  obtain ⟨left, cnt, rfl, hrg, hb⟩ := hrel
  go_wp2_with (first
   | (at_next; refine wpList_next_ranges _ rfl _ rfl 9 law_s _ Value.string (Value.int .i64) ?invK ?invV X.nb w.heap.size _ M left cnt rfl hrg ?hDone ?hMore)
   | go_in)
  case invK => exact fun key kl hk => by obtain ⟨s, rfl, _⟩ := keyOf_string_inv_ hk; exact ⟨s, rfl⟩
  case invV => exact fun v y hv => by obtain ⟨c, rfl, _⟩ := plainElem_int_inv Tryz.underlying3 hv; exact ⟨c, rfl⟩
  case hDone =>
   intro _ hl0
   rw [sumL_all _ _ _ hl0, ← show U = _ from HUS.out]
   go_wp2
   go_ret
   exact ⟨rfl, hb⟩
  case hMore =>
   intro x c kl y yp w1 cnt1 hkey hlx hv hat hrg1 hlt hg1 hs1 hen
   obtain ⟨s, hxs, hkl2⟩ := keyOf_string_inv_ hkey
   cases hxs
   have hb1 : Below w.heap.size w w1 := hb.grown hg1 hb.size (fun j hj => by cases hj; exact Nat.le_refl _)
   have hD1 := h.below hb1
   have hhas : Maps.has M kl = true := Maps.has_true_of_atKey hat
   subst hkl2
   unfold key at hhas hat hlx hrg1
   obtain ⟨i, hgi⟩ : ∃ i, S.names.get x.data.toList = some i := by
    rw [show M = _ from HMN.out, Nm.enc_has] at hhas
    exact Option.isSome_iff_exists.1 hhas
   have hi := hl _ (Nm.get_mem hgi)
   simp only at hi
   have hia := fun z => Nm.enc_at S.names x.data.toList z hgi
   have hy : y = .lit (.int .i64 (i : Int)) := by rw [← hat .nil, show M = _ from HMN.out, hia]
   obtain ⟨c', hc', hy2, _⟩ := plainElem_int_inv Tryz.underlying3 hv
   cases hc'
   have hci : c = (i : Int) := by
    have h2 := congrArg Prod.fst hy2
    simp only at h2
    rw [h2] at hy
    injection hy with hy
    injection hy with _ hy
   subst hci
   have hp0 : Nm.lit1 (x.data.toList, i) ∈ es := by
    rw [show es = _ from HES.out]
    exact List.mem_map.2 ⟨_, Nm.get_mem hgi, rfl⟩
   have hstep := sumL_step (lenOf S.files) left es hpw hkl _ hp0 hlx
   have hle := sumL_le (lenOf S.files) (fun z => left z && !z.sameKey (.string x.data.toList)) es
   simp only [Nm.lit1] at hstep
   have hip : i < X.ps.length := by rw [h.flen]; exact hi
   have hfl : lenOf S.files (.lit (.int .i64 (i : Int))) = (S.files[i]).1.length := by simp [lenOf, hi]
   rw [hfl] at hstep
   obtain ⟨hfb, hfr⟩ := hD1.file i hi hip
   have e1 := hD1.box.cell 1
   simp only [Dw.cells, gE0, gE1] at e1
   obtain ⟨g, cap, hg9, hcell, hbig⟩ := hD1.fileAt hi
   rw [hg9] at e1
   have hptr : X.ps.getD i (0, Go.undef) = X.ps[i] := by simp [List.getD_eq_getElem?_getD, hip]
   rw [hptr] at hcell
   unfold ptrV at hcell
   have e0 := hfb.cell 0
   simp only [gE0] at e0
   obtain ⟨fA, fc, hfv2, _, _, _⟩ := own_form hfr
   rw [hfv2] at e0
   have hi' : (i : Int) < (S.files.length : Int) := by omega
   have hus : U = (es.map fun p => lenOf S.files p.2).sum := HUS
   have hsb : sumL (lenOf S.files) left es + S.files[i].1.length ≤ 1099511627776 := by omega
   have HST := Lib.hid hstep
   generalize (S.files[i]).1.length = F at *
   generalize hS : sumL (lenOf S.files) left es = T at *
   clear hus hstep hle hat hia hv hy2 hfr hfb hptr hgi hp0 hg9
   go_wp2
   go_roundw
   case rel => exact ⟨_, cnt1, by rw [HST.out]; simp, hrg1, hb1⟩
   case measure => rw [hrg1.left_eq, hrg.left_eq]; exact hlt
end
section
open Go Go.RowKit Go.Maps
def turnV (t : Tn) : Value := .agg #[.int .i64 (t.kind : Int), .int .i64 (t.file : Int), .string (str t.a), .string (str t.b)]
theorem do_any (k f : Nat) (a b : List UInt8) (ha : a.length ≤ maxLen) (hb : b.length ≤ maxLen) (hf : f ≤ 9223372036854775807) (nb n : Nat) (M : Nm) (w : World) (h : NamesAt w nb n M) (hn : n < maxLen) (hk : k = 1 ∨ k = 2 ∨ k = 3) :
  Calls Tryz.prog 58 #[turnV ⟨k, f, a, b⟩, .map (some nb)] w fun e w' => e = .returned (.tuple #[]) ∧ NamesAt w' nb (n + 1) (Tn.go ⟨k, f, a, b⟩ M) ∧ Chg [nb] w w' := by
 have hka : keyOf Tryz.prog 9 (.string (str a)) = some (.string a) := by rw [key_s (by rw [str_size]; exact ha), list_str]
 have hkb : keyOf Tryz.prog 9 (.string (str b)) = some (.string b) := by rw [key_s (by rw [str_size]; exact hb), list_str]
 have hlt := h.lt
 unfold turnV
 simp only
 rcases hk with rfl | rfl | rfl
 ·have hgo : Tn.go ⟨1, f, a, b⟩ M = M.put a f := rfl
  rw [hgo]
  have hwf : (Lit.int .i64 (f : Int)).wf = true := WalkArith.wf_i64 (by omega)
  have HP := Lib.hid (Nm.enc_put M a f)
  go_enter Tryz.func58, Tryz.ntmps58
  go_wp2_with (at_mapUpdate; refine wpList_mapUpdate_own _ rfl _ _ _ 101 rfl 9 3 law_s Tryz.underlying101 _ nb n _ rfl (h.alloc _) hn _ _ _ rfl rfl hka _ [] (plainElem_int Tryz.underlying3 hwf) ?_; intro w1 hown1 hgrow1)
  have hc : Chg [nb] w w1 := (Chg.refl [nb] w |>.alloc _).trans (Chg.of_grown (F := [nb]) hgrow1 (fun b hb => by cases hb; simp)) (fun g hg => .inl hg)
  rw [HP.out] at hown1
  go_wp2
  exact bodyPost_end (v := .tuple #[]) (by simp [results, go_sem]) rfl ⟨rfl, hown1, hc⟩
 ·cases hg : M.get a with
  | none =>
   have hgo : Tn.go ⟨2, f, a, b⟩ M = M := by unfold Tn.go; simp [hg]
   rw [hgo]
   have HH : Hid (Maps.has (Nm.enc M) (.string a) = false) := by
    have := Nm.enc_has M a
    rw [hg] at this
    exact this
   clear hgo hg
   go_enter Tryz.func58, Tryz.ntmps58
   go_wp2_with (at_lookup; refine wpList_lookup_own_ok_int _ rfl _ _ 101 rfl 9 3 .i64 law_s Tryz.underlying101 Tryz.underlying3 (zeroInt _) nb _ _ rfl (h.alloc _) _ _ rfl hka ?_; intro c hat hwc; rw [HH.out])
   have hc : Chg [nb] w (w.alloc (.cells #[.int .i64 2, .int .i64 (f : Int), .string (str a), .string (str b)] 125)) := (Chg.refl [nb] w).alloc _
   go_wp2
   exact bodyPost_end (v := .tuple #[]) (by simp [results, go_sem]) rfl ⟨rfl, (h.alloc _).mono (by omega), hc⟩
  | some i =>
   have hgo : Tn.go ⟨2, f, a, b⟩ M = (M.put b i).del a := by unfold Tn.go; simp [hg]
   rw [hgo]
   have HH : Hid (Maps.has (Nm.enc M) (.string a) = true) := by
    have := Nm.enc_has M a
    rw [hg] at this
    exact this
   have HA := Lib.hid (fun z => Nm.enc_at M a z hg)
   have HP := Lib.hid (Nm.enc_put M b i)
   have HD := Lib.hid (Nm.enc_del (M.put b i) a)
   clear hgo
   go_enter Tryz.func58, Tryz.ntmps58
   go_wp2_with (first
    | (at_lookup; refine wpList_lookup_own_ok_int _ rfl _ _ 101 rfl 9 3 .i64 law_s Tryz.underlying101 Tryz.underlying3 (zeroInt _) nb _ _ rfl (h.alloc _) _ _ rfl hka ?_; intro c hat hwc; rw [HA.out] at hat; injection hat with hat; injection hat with _ hat; subst hat; rw [HH.out])
    | (at_mapUpdate; refine wpList_mapUpdate_own _ rfl _ _ _ 101 rfl 9 3 law_s Tryz.underlying101 _ nb n _ rfl (h.alloc _) hn _ _ _ rfl rfl hkb _ [] (plainElem_int Tryz.underlying3 hwc) ?_; intro w1 hown1 hgrow1; have hc1 : Chg [nb] w w1 := (Chg.refl [nb] w |>.alloc _).trans (Chg.of_grown (F := [nb]) hgrow1 (fun b hb => by cases hb; simp)) (fun g hg => .inl hg); have hq2 : w1.cell? ⟨w.heap.size, 2, none⟩ = some (.string (str a)) := (World.cell?_of_block (hgrow1.block w.heap.size (by simp) (fun e => by injection e with e; omega))).trans (by rw [World.cell?_alloc_at _ _ _ _ rfl]; rfl))
    | (at_delete; refine wpList_delete_own _ rfl _ _ 101 9 rfl 3 law_s Tryz.underlying101 _ nb (n + 1) _ rfl hown1 _ _ rfl hka ?_; intro w2 hown2 hturn2))
   have hc : Chg [nb] w w2 := hc1.trans (Chg.of_grown (F := [nb]) hturn2.grown (fun b hb => by cases hb; simp)) (fun g hg => .inl hg)
   rw [HP.out, HD.out] at hown2
   go_wp2
   exact bodyPost_end (v := .tuple #[]) (by simp [results, go_sem]) rfl ⟨rfl, hown2, hc⟩
 ·have hgo : Tn.go ⟨3, f, a, b⟩ M = M.del a := rfl
  rw [hgo]
  have HD := Lib.hid (Nm.enc_del M a)
  go_enter Tryz.func58, Tryz.ntmps58
  go_wp2_with (at_delete; refine wpList_delete_own _ rfl _ _ 101 9 rfl 3 law_s Tryz.underlying101 _ nb n _ rfl (h.alloc _) _ _ rfl hka ?_; intro w1 hown1 hturn1)
  have hc : Chg [nb] w w1 := (Chg.refl [nb] w |>.alloc _).trans (Chg.of_grown (F := [nb]) hturn1.grown (fun b hb => by cases hb; simp)) (fun g hg => .inl hg)
  rw [HD.out] at hown1
  go_wp2
  exact bodyPost_end (v := .tuple #[]) (by simp [results, go_sem]) rfl ⟨rfl, hown1.mono (by omega), hc⟩
end
section
open Go Go.RowKit
namespace Sd
variable {d : Sd}
theorem call_cases (d : Sd) (l : List (List UInt8)) : (d.call l = (d, 10) ∧ l.all named = false) ∨ ∃ de st fa er, d.call l = ({ d with calls := wrap64 (d.calls + 1), dead := de, stop := st, fail := fa }, er) ∧ l.all named = true ∧ st ≤ d.stop ∧ fa ≤ d.fail ∧ (er = 0 ∨ er = 15 ∨ er = 50) := by
 cases hl : l.all named with
 | false => exact .inl ⟨by simp [call, hl], rfl⟩
 | true =>
  refine .inr ?_
  cases hd : d.dead with
  | true => exact ⟨true, d.stop, d.fail, 50, by simp [call, hl, hd], rfl, Nat.le_refl _, Nat.le_refl _, .inr (.inr rfl)⟩
  | false =>
   by_cases hs : 0 < d.stop <;> by_cases hf : 0 < d.fail <;> by_cases h1 : d.fail - 1 = 0
   all_goals first
    | exact ⟨_, d.stop - 1, d.fail - 1, _, by simp only [call, hl, hd, hs, hf, h1, if_true, if_false]; rfl, rfl, by omega, by omega, by simp⟩
    | exact ⟨_, d.stop - 1, d.fail, _, by simp only [call, hl, hd, hs, hf, h1, if_true, if_false]; rfl, rfl, by omega, by omega, by simp⟩
    | exact ⟨_, d.stop, d.fail - 1, _, by simp only [call, hl, hd, hs, hf, h1, if_true, if_false]; rfl, rfl, by omega, by omega, by simp⟩
    | exact ⟨_, d.stop, d.fail, _, by simp only [call, hl, hd, hs, hf, h1, if_true, if_false]; rfl, rfl, by omega, by omega, by simp⟩
theorem call_same (d : Sd) (l : List (List UInt8)) : (d.call l).1.names = d.names ∧ (d.call l).1.lasted = d.lasted ∧ (d.call l).1.files = d.files ∧ (d.call l).1.turns = d.turns ∧ (d.call l).1.quota = d.quota ∧ (d.call l).1.stop ≤ d.stop ∧ (d.call l).1.fail ≤ d.fail := by
 rcases call_cases d l with ⟨h, _⟩ | ⟨de, st, fa, er, h, _, h1, h2, _⟩ <;> rw [h]
 ·exact ⟨rfl, rfl, rfl, rfl, rfl, Nat.le_refl _, Nat.le_refl _⟩
 ·exact ⟨rfl, rfl, rfl, rfl, rfl, h1, h2⟩
theorem Wf.call (h : d.Wf) (l : List (List UInt8)) : (d.call l).1.Wf := by
 obtain ⟨e1, e2, e3, e4, e5, e6, e7⟩ := call_same d l
 obtain ⟨a1, a2, a3, a4, a5, a6, a7, a8, b1, b2, b3, a9, a10⟩ := h
 exact ⟨by rw [e5]; exact a1, by rw [e3]; exact a2, by rw [e1, e3]; exact a3, by rw [e2, e3]; exact a4, by rw [e1]; exact a5, by rw [e2]; exact a6, by rw [e1]; exact a7, by rw [e3, e4]; exact a8, by rw [e1]; exact b1, by rw [e2]; exact b2, by rw [e4]; exact b3, by omega, by omega⟩
theorem call_load (d : Sd) (l : List (List UInt8)) : (d.call l).1.load = d.load := by
 obtain ⟨e1, e2, e3, e4, e5, _⟩ := call_same d l
 simp [load, e3, e4]
theorem call_used (d : Sd) (l : List (List UInt8)) : (d.call l).1.used = d.used := by
 obtain ⟨e1, e2, e3, e4, e5, _⟩ := call_same d l
 simp [used, size, e1, e3]
theorem size_le (h : d.Wf) (i : Nat) : d.size i ≤ 250000 := by
 unfold size
 by_cases hi : i < d.files.length
 ·have := (h.file i hi).2
  simp [List.getD_eq_getElem?_getD, hi]
  exact this
 ·simp [List.getD_eq_getElem?_getD, Nat.le_of_not_lt hi]
theorem used_le (h : d.Wf) : d.used ≤ 16000000 := by
 have hm := h.most
 have hs := size_le h
 unfold used
 have : ∀ m : Nm, (m.map fun p => d.size p.2).sum ≤ m.length * 250000 := by
  intro m
  induction m with
  | nil => simp
  | cons p r ih =>
   have := hs p.2
   simp only [List.map_cons, List.sum_cons, List.length_cons]
   omega
 have := this d.names
 omega
theorem Leads.mono {m : Nm} {n k : Nat} (h : Leads m n) (hk : n ≤ k) : Leads m k := fun p hp => Nat.lt_of_lt_of_le (h p hp) hk
theorem Leads.put {m : Nm} {n : Nat} (h : Leads m n) (s : List UInt8) {i : Nat} (hi : i < n) : Leads (m.put s i) n := by
 intro p hp
 rcases Nm.mem_put.1 hp with rfl | ⟨hp, _⟩
 ·exact hi
 ·exact h p hp
theorem Leads.del {m : Nm} {n : Nat} (h : Leads m n) (s : List UInt8) : Leads (m.del s) n := fun p hp => h p (Nm.mem_del.1 hp).1
theorem Leads.go {m : Nm} {n : Nat} (h : Leads m n) (t : Tn) (ht : t.kind = 1 → t.file < n) : Leads (t.go m) n := by
 unfold Tn.go
 split
 ·exact h.put _ (ht ‹_›)
 ·split
  ·split
   ·rename_i i hg
    exact (h.put _ (h _ (Nm.get_mem hg))).del _
   ·exact h
  ·split
   ·exact h.del _
   ·exact h
theorem apart_go {m : Nm} (h : Nm.Apart m) (t : Tn) : Nm.Apart (t.go m) := by
 unfold Tn.go
 split
 ·exact Nm.apart_put h _ _
 ·split
  ·split
   ·exact Nm.apart_del (Nm.apart_put h _ _) _
   ·exact h
  ·split
   ·exact Nm.apart_del h _
   ·exact h
theorem length_go {m : Nm} (h : Nm.Apart m) (t : Tn) (hk : t.kind ≠ 1) (hne : t.a ≠ t.b) : (t.go m).length ≤ m.length := by
 unfold Tn.go
 rw [if_neg hk]
 split
 ·split
  ·rename_i i hg
   have h1 : ((m.put t.b i).get t.a) = some i := by rw [Nm.get_put_other h hne]; exact hg
   have h2 := Nm.length_del_lt h1
   have h3 := Nm.length_put_le m t.b i
   omega
  ·exact Nat.le_refl _
 ·split
  ·exact Nm.length_del_le _ _
  ·exact Nat.le_refl _
theorem new_wf (q : Int) (h : q ≤ 1099511627776) : (new q).Wf :=
 ⟨by simp [new]; omega, fun i h => by simp [new] at h, fun p hp => (by cases hp), fun p hp => (by cases hp), List.Pairwise.nil, List.Pairwise.nil, by simp [new], fun t ht => (by cases ht), fun p hp => (by cases hp), fun p hp => (by cases hp), fun t ht => (by cases ht), by simp [new], by simp [new]⟩
theorem named_ne {s : List UInt8} (h : named s = true) : s ≠ [] := by
 intro e
 subst e
 simp [named] at h
theorem call_ok {l : List (List UInt8)} (h : (d.call l).2 = 0) : l.all named = true := by
 rcases call_cases d l with ⟨e, _⟩ | ⟨de, st, fa, er, _, h1, _⟩
 ·rw [e] at h; cases h
 ·exact h1
theorem Wf.create (h : d.Wf) (s : List UInt8) : (d.create s).1.Wf := by
 have hc := h.call [s]
 obtain ⟨e1, e2, e3, e4, e5, e6, e7⟩ := call_same d [s]
 unfold Sd.create
 dsimp only
 split
 ·exact hc
 ·rename_i h0
  have hs : named s = true := by simpa using call_ok (Decidable.not_not.1 h0)
  split
  ·exact hc
  ·split
   ·exact hc
   ·rename_i hn hm
    obtain ⟨a1, a2, a3, a4, a5, a6, a7, a8, b1, b2, b3, a9, a10⟩ := h
    have hl := Nm.length_put_le d.names s d.files.length
    refine ⟨by rw [e5]; exact a1, fun i hi => ?_, ?_, ?_, Nm.apart_put a5 _ _, by rw [e2]; exact a6, by dsimp only; omega, ?_, ?_, by rw [e2]; exact b2, ?_, by dsimp only; omega, by dsimp only; omega⟩
    ·dsimp only at hi ⊢
     rcases Nat.lt_or_ge i d.files.length with h1 | h1
     ·rw [List.getElem_append_left h1]; exact a2 i h1
     ·rw [List.getElem_append_right h1]
      simp
    ·exact (a3.mono (by simp)).put _ (by simp)
    ·dsimp only
     rw [e2]
     exact a4.mono (by simp)
    ·intro t ht
     simp only [List.mem_append, List.mem_singleton] at ht
     rcases ht with ht | rfl
     ·have := a8 t ht
      simp only [List.length_append, List.length_singleton]
      exact ⟨by omega, fun hk => by have := this.2 hk; omega⟩
     ·simp
    ·intro p hp
     rcases Nm.mem_put.1 hp with rfl | ⟨hp, _⟩
     ·exact hs
     ·exact b1 p hp
    ·intro t ht
     simp only [List.mem_append, List.mem_singleton] at ht
     rcases ht with ht | rfl
     ·exact b3 t ht
     ·exact ⟨hs, fun e => (by cases e), .inl rfl⟩
theorem Wf.setFile (h : d.Wf) (i : Nat) (f : List UInt8 × Nat) (h1 : f.2 ≤ f.1.length) (h2 : f.1.length ≤ 250000) : ({ d with files := d.files.set i f } : Sd).Wf := by
 obtain ⟨a1, a2, a3, a4, a5, a6, a7, a8, b1, b2, b3, a9, a10⟩ := h
 refine ⟨a1, fun j hj => ?_, by simpa using a3, by simpa using a4, a5, a6, a7, by simpa using a8, b1, b2, b3, a9, a10⟩
 simp only [List.length_set] at hj
 simp only [List.getElem_set]
 split
 ·exact ⟨h1, h2⟩
 ·exact a2 j hj
theorem getD_file (h : d.Wf) {i : Nat} (hi : i < d.files.length) : (d.files.getD i ([], 0)).2 ≤ (d.files.getD i ([], 0)).1.length ∧ (d.files.getD i ([], 0)).1.length ≤ 250000 := by
 have := h.file i hi
 simpa [List.getD_eq_getElem?_getD, hi] using this
theorem Wf.append (h : d.Wf) (s b : List UInt8) : (d.append s b).1.Wf := by
 have hc := h.call [s]
 obtain ⟨e1, e2, e3, e4, e5, e6, e7⟩ := call_same d [s]
 unfold Sd.append
 dsimp only
 split
 ·exact hc
 ·split
  ·exact hc
  ·rename_i i hg
   split
   ·exact hc
   ·rename_i hlen
    split
    ·exact hc
    ·have hi := h.names _ (Nm.get_mem hg)
     obtain ⟨q1, q2⟩ : (d.files.getD i ([], 0)).2 ≤ (d.files.getD i ([], 0)).1.length ∧ (d.files.getD i ([], 0)).1.length ≤ 250000 := getD_file h hi
     unfold Sd.size at hlen
     have h2 := hc.setFile i ((d.files.getD i ([], 0)).1 ++ b, (d.files.getD i ([], 0)).2) (by simp only [List.length_append]; omega) (by simp only [List.length_append]; omega)
     rwa [e3] at h2
theorem Wf.sync (h : d.Wf) (s : List UInt8) : (d.sync s).1.Wf := by
 have hc := h.call [s]
 obtain ⟨e1, e2, e3, e4, e5, e6, e7⟩ := call_same d [s]
 unfold Sd.sync
 dsimp only
 split
 ·exact hc
 ·split
  ·exact hc
  ·rename_i i hg
   have hi : i < d.files.length := h.names _ (Nm.get_mem hg)
   have := getD_file h hi
   have h2 := hc.setFile i ((d.files.getD i ([], 0)).1, d.size i) (by simp [Sd.size]) this.2
   rwa [e3] at h2
theorem go_named {m : Nm} (h : ∀ p ∈ m, named p.1 = true) (t : Tn) (ht : named t.a = true ∧ (t.kind = 2 → named t.b = true)) : ∀ p ∈ t.go m, named p.1 = true := by
 intro p hp
 unfold Tn.go at hp
 split at hp
 ·rcases Nm.mem_put.1 hp with rfl | ⟨hp, _⟩
  ·exact ht.1
  ·exact h p hp
 ·split at hp
  ·split at hp
   ·rcases Nm.mem_put.1 (Nm.mem_del.1 hp).1 with rfl | ⟨hp, _⟩
    ·exact ht.2 ‹_›
    ·exact h p hp
   ·exact h p hp
  ·split at hp
   ·exact h p (Nm.mem_del.1 hp).1
   ·exact h p hp
theorem Wf.setNames (h : d.Wf) (t : Tn) (hk : t.kind ≠ 1) (hf : t.file = 0) (hne : t.a ≠ t.b) (hg : named t.a = true ∧ (t.kind = 2 → named t.b = true) ∧ (t.kind = 1 ∨ t.kind = 2 ∨ t.kind = 3)) : ({ d with names := t.go d.names, turns := d.turns ++ [t] } : Sd).Wf := by
 obtain ⟨a1, a2, a3, a4, a5, a6, a7, a8, b1, b2, b3, a9, a10⟩ := h
 refine ⟨a1, a2, a3.go t (fun e => absurd e hk), a4, apart_go a5 t, a6, Nat.le_trans (length_go a5 t hk hne) a7, fun u hu => ?_, go_named b1 t ⟨hg.1, hg.2.1⟩, b2, fun u hu => ?_, a9, a10⟩
 ·simp only [List.mem_append, List.mem_singleton] at hu
  rcases hu with hu | rfl
  ·exact a8 u hu
  ·exact ⟨by rw [hf]; exact Nat.zero_le _, fun e => absurd e hk⟩
 ·simp only [List.mem_append, List.mem_singleton] at hu
  rcases hu with hu | rfl
  ·exact b3 u hu
  ·exact hg
theorem Wf.rename (h : d.Wf) (a b : List UInt8) : (d.rename a b).1.Wf := by
 have hc := h.call [a, b]
 obtain ⟨e1, e2, e3, e4, e5, e6, e7⟩ := call_same d [a, b]
 unfold Sd.rename
 dsimp only
 split
 ·exact hc
 ·rename_i h0
  have hs : named a = true ∧ named b = true := by simpa using call_ok (Decidable.not_not.1 h0)
  split
  ·exact hc
  ·split
   ·exact hc
   ·rename_i hne
    have h2 := hc.setNames ⟨2, 0, a, b⟩ (by simp) rfl hne ⟨hs.1, fun _ => hs.2, .inr (.inl rfl)⟩
    rwa [e1, e4] at h2
theorem Wf.remove (h : d.Wf) (s : List UInt8) : (d.remove s).1.Wf := by
 have hc := h.call [s]
 obtain ⟨e1, e2, e3, e4, e5, e6, e7⟩ := call_same d [s]
 unfold Sd.remove
 dsimp only
 split
 ·exact hc
 ·rename_i h0
  split
  ·exact hc
  ·have hs : named s = true := by simpa using call_ok (Decidable.not_not.1 h0)
   have h2 := hc.setNames ⟨3, 0, s, []⟩ (by simp) rfl (named_ne hs) ⟨hs, fun e => (by cases e), .inr (.inr rfl)⟩
   rwa [e1, e4] at h2
theorem Wf.syncDir (h : d.Wf) : (d.syncDir).1.Wf := by
 have hc := h.call []
 obtain ⟨e1, e2, e3, e4, e5, e6, e7⟩ := call_same d []
 unfold Sd.syncDir
 dsimp only
 split
 ·exact hc
 ·obtain ⟨a1, a2, a3, a4, a5, a6, a7, a8, b1, b2, b3, a9, a10⟩ := hc
  rw [e1] at a3 a5
  rw [e1] at b1
  exact ⟨a1, a2, by rw [e1]; exact a3, a3, by rw [e1]; exact a5, a5, a7, fun t ht => (by cases ht), by rw [e1]; exact b1, b1, fun t ht => (by cases ht), a9, a10⟩
end Sd
end
end Go.Proofs.YtdkjoigpahafmaaGreatDoor
