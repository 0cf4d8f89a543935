/- Texts PlainManG, ManH in one. No conditions. -/
import Derived.Test.YthepokgkfaocmaaGreatDoorBunL
import Derived.Test.YthepokgkfaocmaaGreatDoorBunM
import Derived.Test.YthepokgkfaocmaaGreatDoorBunY

/-
  A manifest of any View over a disk, as plain data: rewrite, Save.
-/
namespace Go.Proofs.YthepokgkfaocmaaGreatDoor
open Go

/-- A manifest. -/
structure Gs where
  name : List UInt8
  v : Vw
  count : Nat
  broken : Bool
namespace Gw
open Mn
open Mw (kCur kTemp headB sweep)
def fin (d : Sd) (M : Gs) (nm : List UInt8) : Sd × Gs × Nat :=
  if (d.syncDir).2 ≠ 0 then ((d.syncDir).1, { M with name := nm, count := 1, broken := true }, (d.syncDir).2)
  else (sweep nm (d.syncDir).1.list (d.syncDir).1, { M with name := nm, count := 1 }, 0)
def ren (d : Sd) (M : Gs) (nm : List UInt8) : Sd × Gs × Nat :=
  if (d.rename kTemp kCur).2 ≠ 0 then ((d.rename kTemp kCur).1, M, (d.rename kTemp kCur).2) else fin (d.rename kTemp kCur).1 M nm
def sd1 (d : Sd) (M : Gs) (nm : List UInt8) : Sd × Gs × Nat :=
  if (d.syncDir).2 ≠ 0 then ((d.syncDir).1, M, (d.syncDir).2) else ren (d.syncDir).1 M nm
def hd (d : Sd) (M : Gs) (nm : List UInt8) : Sd × Gs × Nat :=
  if (d.write kTemp (headB ((number nm kMan).getD 0))).2 ≠ 0 then ((d.write kTemp (headB ((number nm kMan).getD 0))).1, M, (d.write kTemp (headB ((number nm kMan).getD 0))).2)
  else sd1 (d.write kTemp (headB ((number nm kMan).getD 0))).1 M nm
def tmp (d : Sd) (M : Gs) (nm : List UInt8) : Sd × Gs × Nat :=
  if (d.read kTemp).2 = 0 then
    if (d.remove kTemp).2 ≠ 0 then ((d.remove kTemp).1, M, (d.remove kTemp).2) else hd (d.remove kTemp).1 M nm
  else hd d M nm
/-- The View is written into a file, and current leads to it. -/
def rewrite (d : Sd) (M : Gs) (nm : List UInt8) : Sd × Gs × Nat :=
  if (d.write nm M.v.whole.rec_).2 ≠ 0 then ((d.write nm M.v.whole.rec_).1, M, (d.write nm M.v.whole.rec_).2)
  else tmp (d.write nm M.v.whole.rec_).1 M nm
/-- A change that may be is saved; v is the View with it. -/
def put (d : Sd) (M : Gs) (e : Ed) (v : Vw) : Sd × Gs × Nat :=
  if (d.append M.name e.rec_).2 ≠ 0 then ((d.append M.name e.rec_).1, M, (d.append M.name e.rec_).2)
  else if ((d.append M.name e.rec_).1.sync M.name).2 ≠ 0 then (((d.append M.name e.rec_).1.sync M.name).1, { M with count := M.count + 1, v := v, broken := true }, ((d.append M.name e.rec_).1.sync M.name).2)
  else (((d.append M.name e.rec_).1.sync M.name).1, { M with count := M.count + 1, v := v }, 0)
/-- A change is saved. -/
def save (d : Sd) (M : Gs) (e : Ed) : Sd × Gs × Nat :=
  if M.broken = true then (d, M, 14)
  else if e.may = false then (d, M, 1)
  else match M.v.app e with
    | none => (d, M, 1)
    | some v => put d M e v
/-- A manifest is written anew. -/
def rewriteM (d : Sd) (M : Gs) : Sd × Gs × Nat :=
  if M.broken = true then (d, M, 14)
  else if 1073741824 < greatest d.list kMan + 1 then (d, M, 65)
  else rewrite d M (name kMan (greatest d.list kMan + 1))
end Gw
theorem Vw.whole_may {v : Vw} (h : v.ok = true) : v.whole.may = true := by
  simp only [Vw.ok, isNum, Bool.and_eq_true, decide_eq_true_eq] at h
  obtain ⟨⟨⟨⟨⟨h1, h2⟩, h3⟩, h4⟩, h5⟩, _⟩ := h
  have e1 : decide (0 ≤ v.log) = true := by simp; omega
  have e2 : decide (v.log ≤ 1073741824) = true := by simp; omega
  simp [Ed.may, Vw.whole, h3, h4, h5]
  exact ⟨e1, e2⟩
theorem Ed.rec_len {e : Ed} (h : e.may = true) : e.rec_.length ≤ 2012 := by
  have := Ed.bytes_len e h
  rw [Ed.rec_, Fr.put_length]
  omega
end Go.Proofs.YthepokgkfaocmaaGreatDoor

/-
  A manifest of any View in memory, and its disk, step by step; Break.
-/
namespace Go.Proofs.YthepokgkfaocmaaGreatDoor
open Go Go.RowKit Go.Shelf

/-- A slice's place, length, capacity. -/
structure Sl where
  a : Option Addr
  n : Nat
  c : Nat
/-- The cells of a manifest. -/
def Gs.cells (M : Gs) (xd : Nat) (P : Sl) : List Value := [.pointer (some ⟨xd, 0, none⟩), .string (str M.name), .int .i64 M.v.log, .slice P.a P.n P.c, .int .u64 (M.v.floor : Int), .int .u64 (M.v.cert : Int), .int .u64 (M.v.at_ : Int), .int .u64 (M.v.lease : Int), .int .i64 (M.count : Int), .int .u32 (if M.broken = true then 1 else 0), .int .i32 0, .int .u32 0, .bool M.broken]
abbrev GK (w : World) (m xd : Nat) (M : Gs) (P : Sl) : Prop := BoxO w 92 m (M.cells xd P)

set_option maxRecDepth 100000 in
set_option maxHeartbeats 1000000 in
theorem gbreak_any (m xd : Nat) (M : Gs) (P : Sl) (w : World) (h : GK w m xd M P) : Calls Tryz.prog 46 #[.pointer (some ⟨m, 0, none⟩)] w fun e w' => e = .returned (.tuple #[]) ∧ GK w' m xd { M with broken := true } P ∧ Chg [m] w w' := by
  have hmf : ∀ (fn : Fn) (first cap : Array Value) (w : World), (Instr.makeFunc fn first cap).run Tryz.prog w = .ok (.func fn first cap) w := fun _ _ _ _ => rfl
  have hlt := h.lt
  have h1 : GK (w.alloc (.cells #[.pointer (some ⟨m, 0, none⟩)] 24)) m xd M P := BoxO.alloc h _
  have hp : (w.alloc (.cells #[.pointer (some ⟨m, 0, none⟩)] 24)).cell? ⟨w.heap.size, 0, none⟩ = some (.pointer (some ⟨m, 0, none⟩)) := by simp
  have hc1 : Chg [m] w (w.alloc (.cells #[.pointer (some ⟨m, 0, none⟩)] 24)) := (Chg.refl [m] w).alloc _
  generalize hV : w.alloc (.cells #[.pointer (some ⟨m, 0, none⟩)] 24) = V at *
  have c9 := h1.cell 9
  have c10 := h1.cell 10
  have c12 := h1.cell 12
  simp only [Gs.cells, List.getElem?_cons_zero, List.getElem?_cons_succ] at c9 c10 c12
  cases hb : M.broken with
  | false =>
    rw [hb] at c9 c12
    simp only [Bool.false_eq_true, if_false] at c9
    have hdo := Once.do_first m ⟨w.heap.size, 0, none⟩ (by simp; omega) _ V hp c9 c10 c12 (h1.free 9) (h1.free 10) (h1.free 12)
    have hbx := ((((h1.store 10 (.int .i32 1)).store 12 (.bool true)).drew.store 9 (.int .u32 1)).store 10 (.int .i32 0))
    have hcc : Chg [m] V ((((V.setCell ⟨m, 10, none⟩ (.int .i32 1)).setCell ⟨m, 12, none⟩ (.bool true)).drew.setCell ⟨m, 9, none⟩ (.int .u32 1)).setCell ⟨m, 10, none⟩ (.int .i32 0)) := (((((Chg.refl [m] V).setCell _ (.inl (by simp))).setCell _ (.inl (by simp))).drew).setCell _ (.inl (by simp))).setCell _ (.inl (by simp))
    have hres : GK ((((V.setCell ⟨m, 10, none⟩ (.int .i32 1)).setCell ⟨m, 12, none⟩ (.bool true)).drew.setCell ⟨m, 9, none⟩ (.int .u32 1)).setCell ⟨m, 10, none⟩ (.int .i32 0)) m xd { M with broken := true } P := hbx
    have HR := Lib.hid (And.intro hres (hc1.trans hcc (fun g hg => .inl hg)))
    clear hres hcc hbx hb
    go_enter Tryz.func46, Tryz.ntmps46
    go_wp2_with fail
    refine hdo.mono ?_
    rintro e w2 ⟨rfl, rfl⟩
    go_wp2
    exact bodyPost_end (v := .tuple #[]) (by simp [results, go_sem]) rfl ⟨rfl, HR.out⟩
  | true =>
    rw [hb] at c9
    simp only [if_true] at c9
    have hdo := Once.do_done ⟨m, 9, none⟩ 1 (by omega) (.func (.func 79) #[] #[.pointer (some ⟨w.heap.size, 0, none⟩)]) V c9
    have hres : GK V m xd { M with broken := true } P := by
      have e : ({ M with broken := true } : Gs) = M := by cases M; simp at hb; simp [hb]
      rw [e]
      exact h1
    have HR := Lib.hid (And.intro hres hc1)
    clear hres hb
    go_enter Tryz.func46, Tryz.ntmps46
    go_wp2_with fail
    refine hdo.mono ?_
    rintro e w2 ⟨rfl, hw2⟩
    obtain rfl := hw2.symm
    go_wp2
    exact bodyPost_end (v := .tuple #[]) (by simp [results, go_sem]) rfl ⟨rfl, HR.out⟩


/-- A row of files that lies apart from a disk and from a manifest. -/
structure Vrow (w : World) (X : Dw) (m : Nat) (P : Sl) (fs : List (Int × Int)) : Prop where
  row : Row w.heap.size w P.a P.n 2 (fcells fs)
  nc : P.n ≤ P.c
  cm : P.c ≤ maxLen
  nb : P.n ≤ 10000
  away : ∀ j, j < (fcells fs).length → ∀ a, P.a = some a → a.block ≠ m ∧ a.block ∉ X.foot
section
variable {w w' : World} {X X' : Dw} {m : Nat} {P : Sl} {fs : List (Int × Int)}
theorem row_chg {B n size : Nat} {A : Option Addr} {xs : List Value} {F : List Nat} (h : Chg F w w') (r : Row B w A n size xs) (hB : B ≤ w.heap.size) (hF : ∀ j, j < xs.length → ∀ a, A = some a → a.block ∉ F) : Row B w' A n size xs :=
  ⟨r.len, fun j hj => let ⟨a, e, b, c⟩ := r.cell j hj; ⟨a, e, b, (h.cell (p := a.add j) (by rw [add_block]; omega) (by rw [add_block]; exact hF j hj a e)).trans c⟩⟩
theorem Vrow.below (h : Vrow w X m P fs) (hb : Below w.heap.size w w') : Vrow w' X m P fs := ⟨(h.row.below hb).up hb.size, h.nc, h.cm, h.nb, h.away⟩
theorem Vrow.turn (h : Vrow w X m P fs) (c : Chg [m] w w') : Vrow w' X m P fs := ⟨(row_chg c h.row (Nat.le_refl _) (fun j hj a ha hm => (h.away j hj a ha).1 (List.mem_singleton.1 hm))).up c.size, h.nc, h.cm, h.nb, h.away⟩
theorem Vrow.step (h : Vrow w X m P fs) (c : Chg X.foot w w') (hf : ∀ g ∈ X'.foot, g ∈ X.foot ∨ w.heap.size ≤ g) : Vrow w' X' m P fs :=
  ⟨(row_chg c h.row (Nat.le_refl _) (fun j hj a ha => (h.away j hj a ha).2)).up c.size, h.nc, h.cm, h.nb, fun j hj a ha => ⟨(h.away j hj a ha).1, fun hm => by
    rcases hf _ hm with h1 | h1
    · exact (h.away j hj a ha).2 h1
    · obtain ⟨a', e, hb, _⟩ := h.row.cell j hj
      rw [ha] at e
      injection e with e
      subst e
      omega⟩⟩
end
/-- From w on, where a disk lay as X says and a manifest in block m, these two alone have changed; now they are S and M. -/
structure Gst (P : Sl) (m : Nat) (X : Dw) (w : World) (S : Sd) (M : Gs) (w' : World) (X' : Dw) : Prop where
  acc : Acc [m] X w S w' X'
  man : GK w' m X.d M P
  row : Vrow w' X' m P M.v.files
  lt : m < w.heap.size
  out : m ∉ X.foot
  ng : NG ≤ m
variable {P P1 : Sl} {m : Nat} {X X1 : Dw} {w w1 w2 : World} {S S1 : Sd} {M M1 : Gs}
theorem Gst.start (h : Dm w X S) (hm : GK w m X.d M P) (hr : Vrow w X m P M.v.files) (ho : m ∉ X.foot) (hn : NG ≤ m) : Gst P m X w S M w X := ⟨Acc.start h, hm, hr, hm.lt, ho, hn⟩
theorem Gst.away (h : Gst P m X w S M w1 X1) : m ∉ X1.foot := fun hm => by
  rcases h.acc.f m hm with h1 | h1
  · exact h.out h1
  · have := h.lt
    omega
theorem Gst.below (h : Gst P m X w S M w1 X1) (hb : Below w1.heap.size w1 w2) : Gst P m X w S M w2 X1 := ⟨h.acc.below hb, h.man.below hb, h.row.below hb, h.lt, h.out, h.ng⟩
theorem Gst.step (h : Gst P m X w S M w1 X1) (hu : UpdM X1 w1 w2 S1) : ∃ X2, Gst P m X w S1 M w2 X2 := by
  obtain ⟨X2, e, hd, hc, hf⟩ := hu
  refine ⟨X2, ⟨e.trans h.acc.e, hd, h.acc.c.trans hc (fun g hg => ?_), fun g hg => ?_⟩, h.man.chg hc h.away, h.row.step hc hf, h.lt, h.out, h.ng⟩
  · rcases h.acc.f g hg with h1 | h1
    · exact .inl (List.mem_append_right _ h1)
    · exact .inr h1
  · rcases hf g hg with h1 | h1
    · exact h.acc.f g h1
    · exact .inr (Nat.le_trans h.acc.c.size h1)
/-- The manifest's own block has changed. -/
theorem Gst.turn (h : Gst P m X w S M w1 X1) (c : Chg [m] w1 w2) (hm : GK w2 m X.d M1 P) (hv : M1.v = M.v) : Gst P m X w S M1 w2 X1 :=
  ⟨h.acc.other c (fun g hg => by rw [List.mem_singleton.1 hg]; exact ⟨by simp, h.lt, h.out, h.ng⟩), hm, by rw [hv]; exact h.row.turn c, h.lt, h.out, h.ng⟩
theorem Gst.read (h : Gst P m X w S M w1 X1) (s : ByteArray) (hs : s.size ≤ maxLen) :
    Calls Tryz.prog 13 #[.pointer (some ⟨X.d, 0, none⟩), .string s] w1 fun e w' => ∃ A c, e = .returned (.tuple #[.slice A (S.read s.data.toList).1.length c, .int .i64 ((S.read s.data.toList).2 : Int)]) ∧ Below w1.heap.size w1 w' :=
  (h.acc.read s hs).mono fun _ _ ⟨A, c, h1, _, h2⟩ => ⟨A, c, h1, h2⟩
theorem Gst.write (h : Gst P m X w S M w1 X1) (s : ByteArray) (hs : s.size ≤ maxLen) (A : Option Addr) (k c : Nat) (b : List UInt8) (hk : k ≤ 1099511627776) (hl : S.load ≤ 1099511627776) (hr : Row w1.heap.size w1 A k 1 (bts b)) (hA : ∀ a, A = some a → a.block ∉ X1.foot) :
    Calls Tryz.prog 67 #[.pointer (some ⟨X.d, 0, none⟩), .string s, .slice A k c] w1 fun e w' => e = .returned (.int .i64 ((S.write s.data.toList b).2 : Int)) ∧ ∃ X2, Gst P m X w (S.write s.data.toList b).1 M w' X2 := by
  rw [← h.acc.e]
  exact (write_any X1 S s hs A k c b hk hl w1 h.acc.dm hr hA).mono fun _ _ ⟨h1, h2⟩ => ⟨h1, h.step h2⟩
theorem Gst.append (h : Gst P m X w S M w1 X1) (s : ByteArray) (hs : s.size ≤ maxLen) (A : Option Addr) (k c : Nat) (b : List UInt8) (hk : k ≤ 1099511627776) (hr : Row w1.heap.size w1 A k 1 (bts b)) (hA : ∀ a, A = some a → a.block ∉ X1.foot) :
    Calls Tryz.prog 18 #[.pointer (some ⟨X.d, 0, none⟩), .string s, .slice A k c] w1 fun e w' => e = .returned (.int .i64 ((S.append s.data.toList b).2 : Int)) ∧ ∃ X2, Gst P m X w (S.append s.data.toList b).1 M w' X2 := by
  rw [← h.acc.e]
  exact (append_any X1 S s hs A k c b hk h.acc.dm.wf w1 h.acc.dm.dk hr (fun a ha e => hA a ha (by rw [e]; exact mem_foot.2 (.inl rfl)))).mono fun _ _ ⟨h1, h2⟩ => ⟨h1, h.step (h.acc.dm.upd (h.acc.dm.wf.append _ _) h2)⟩
theorem Gst.sync (h : Gst P m X w S M w1 X1) (s : ByteArray) (hs : s.size ≤ maxLen) :
    Calls Tryz.prog 45 #[.pointer (some ⟨X.d, 0, none⟩), .string s] w1 fun e w' => e = .returned (.int .i64 ((S.sync s.data.toList).2 : Int)) ∧ ∃ X2, Gst P m X w (S.sync s.data.toList).1 M w' X2 := by
  rw [← h.acc.e]
  exact (sync_any X1 S s hs h.acc.dm.wf w1 h.acc.dm.dk).mono fun _ _ ⟨h1, h2⟩ => ⟨h1, h.step (h.acc.dm.upd (h.acc.dm.wf.sync _) h2)⟩
theorem Gst.remove (h : Gst P m X w S M w1 X1) (s : ByteArray) (hs : s.size ≤ maxLen) (hl : S.load ≤ 1099511627776) :
    Calls Tryz.prog 16 #[.pointer (some ⟨X.d, 0, none⟩), .string s] w1 fun e w' => e = .returned (.int .i64 ((S.remove s.data.toList).2 : Int)) ∧ ∃ X2, Gst P m X w (S.remove s.data.toList).1 M w' X2 := by
  rw [← h.acc.e]
  exact (remove_any X1 S s hs h.acc.dm.wf hl w1 h.acc.dm.dk).mono fun _ _ ⟨h1, h2⟩ => ⟨h1, h.step (h.acc.dm.upd (h.acc.dm.wf.remove _) h2)⟩
theorem Gst.rename (h : Gst P m X w S M w1 X1) (s u : ByteArray) (hs : s.size ≤ maxLen) (hu : u.size ≤ maxLen) (hl : S.load ≤ 1099511627776) :
    Calls Tryz.prog 71 #[.pointer (some ⟨X.d, 0, none⟩), .string s, .string u] w1 fun e w' => e = .returned (.int .i64 ((S.rename s.data.toList u.data.toList).2 : Int)) ∧ ∃ X2, Gst P m X w (S.rename s.data.toList u.data.toList).1 M w' X2 := by
  rw [← h.acc.e]
  exact (rename_any X1 S s u hs hu h.acc.dm.wf hl w1 h.acc.dm.dk).mono fun _ _ ⟨h1, h2⟩ => ⟨h1, h.step (h.acc.dm.upd (h.acc.dm.wf.rename _ _) h2)⟩
theorem Gst.syncDir (h : Gst P m X w S M w1 X1) :
    Calls Tryz.prog 70 #[.pointer (some ⟨X.d, 0, none⟩)] w1 fun e w' => e = .returned (.int .i64 ((S.syncDir).2 : Int)) ∧ ∃ X2, Gst P m X w (S.syncDir).1 M w' X2 := by
  rw [← h.acc.e]
  exact (syncDir_any X1 S h.acc.dm.wf w1 h.acc.dm.dk).mono fun _ _ ⟨h1, h2⟩ => ⟨h1, h.step (h.acc.dm.upd h.acc.dm.wf.syncDir h2)⟩
theorem Gst.break_ (h : Gst P m X w S M w1 X1) : Calls Tryz.prog 46 #[.pointer (some ⟨m, 0, none⟩)] w1 fun e w' => e = .returned (.tuple #[]) ∧ Gst P m X w S { M with broken := true } w' X1 :=
  (gbreak_any m X.d M P w1 h.man).mono fun _ _ ⟨h1, h2, h3⟩ => ⟨h1, h.turn h3 h2 rfl⟩
theorem Gst.trans {X2 : Dw} {S2 : Sd} {M2 : Gs} (h : Gst P m X w S M w1 X1) (k : Gst P1 m X1 w1 S2 M2 w2 X2) : Gst P1 m X w S2 M2 w2 X2 := by
  refine ⟨⟨k.acc.e.trans h.acc.e, k.acc.dm, h.acc.c.trans k.acc.c (fun g hg => ?_), fun g hg => ?_⟩, by rw [← h.acc.e]; exact k.man, k.row, h.lt, h.out, h.ng⟩
  · rcases List.mem_append.1 hg with h1 | h1
    · exact .inl (List.mem_append_left _ h1)
    · rcases h.acc.f g h1 with h2 | h2
      · exact .inl (List.mem_append_right _ h2)
      · exact .inr h2
  · rcases k.acc.f g hg with h1 | h1
    · exact h.acc.f g h1
    · exact .inr (Nat.le_trans h.acc.c.size h1)
/-- The same, seen from now on. -/
theorem Gst.anew (h : Gst P m X w S M w1 X1) : Gst P m X1 w1 S M w1 X1 := Gst.start h.acc.dm (by rw [h.acc.e]; exact h.man) h.row h.away h.ng
/-- What a rewrite or a Save leaves. -/
def GLeft (m : Nat) (X : Dw) (w : World) (R : Sd × Gs × Nat) (e : Ending) (w' : World) : Prop := e = .returned (.int .i64 (R.2.2 : Int)) ∧ ∃ P' X', Gst P' m X w R.1 R.2.1 w' X'
theorem GLeft.mk_ {S2 : Sd} {M2 : Gs} {er : Nat} {R : Sd × Gs × Nat} (hR : R = (S2, M2, er)) {X2 : Dw} (h : Gst P m X w S2 M2 w1 X2) : GLeft m X w R (.returned (.int .i64 (er : Int))) w1 := by
  subst hR
  exact ⟨rfl, P, X2, h⟩

end Go.Proofs.YthepokgkfaocmaaGreatDoor
