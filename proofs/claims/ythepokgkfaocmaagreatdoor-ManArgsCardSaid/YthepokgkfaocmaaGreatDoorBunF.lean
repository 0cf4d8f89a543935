/- Texts PlainDisk, PlainDiskB in one. No conditions. -/
import Derived.Maps.Views
import Derived.RowKit

/-
  A disk as plain data: names, files, turns of names, calls; what each call makes of it.
-/
namespace Go.Proofs.YthepokgkfaocmaaGreatDoor
open Go Go.RowKit

/-- Names, each with a file's number; in order. -/
abbrev Nm := List (List UInt8 × Nat)
namespace Nm
def get (m : Nm) (s : List UInt8) : Option Nat := (m.find? fun p => p.1 == s).map (·.2)
def ins (x : List UInt8 × Nat) : Nm → Nm
  | [] => [x]
  | y :: r => if bytesBefore x.1 y.1 then x :: y :: r else y :: ins x r
def del (m : Nm) (s : List UInt8) : Nm := m.filter fun p => !(p.1 == s)
def put (m : Nm) (s : List UInt8) (i : Nat) : Nm := ins (s, i) (del m s)
def lit1 (p : List UInt8 × Nat) : Lit × DataW Unit := (.string p.1, .lit (.int .i64 (p.2 : Int)))
/-- Names as the datum of a map. -/
def enc (m : Nm) : DataW Unit := .map (m.map lit1)
/-- No name stands twice. -/
def Apart (m : Nm) : Prop := m.Pairwise fun p q => p.1 ≠ q.1

theorem enc_ins (x : List UInt8 × Nat) : ∀ m : Nm, DataW.insert (lit1 x) (m.map lit1) = (ins x m).map lit1
  | [] => rfl
  | y :: r => by
    have ih := enc_ins x r
    simp only [List.map_cons, DataW.insert, ins]
    have e : (lit1 x).1.before (lit1 y).1 = bytesBefore x.1 y.1 := rfl
    rw [e]
    split
    · simp
    · simp [ih]
theorem enc_filter (s : List UInt8) (m : Nm) : (m.map lit1).filter (fun p => !p.1.sameKey (.string s)) = (del m s).map lit1 := by
  induction m with
  | nil => rfl
  | cons y r ih =>
    have e : (lit1 y).1.sameKey (.string s) = (y.1 == s) := rfl
    simp only [List.map_cons, List.filter_cons, e, del] at ih ⊢
    split <;> simp_all
theorem enc_del (m : Nm) (s : List UInt8) : (enc m).del (.string s) = enc (del m s) := by
  unfold enc DataW.del
  simp only
  rw [enc_filter]
theorem enc_put (m : Nm) (s : List UInt8) (i : Nat) : (enc m).put (.string s) (.lit (.int .i64 (i : Int))) = enc (put m s i) := by
  unfold enc DataW.put put
  simp only
  rw [enc_filter, ← enc_ins]
  rfl
theorem enc_find (s : List UInt8) (m : Nm) : (m.map lit1).find? (fun p => p.1.sameKey (.string s)) = (m.find? fun p => p.1 == s).map lit1 := by
  induction m with
  | nil => rfl
  | cons y r ih =>
    have e : (lit1 y).1.sameKey (.string s) = (y.1 == s) := rfl
    simp only [List.map_cons, List.find?_cons, e]
    split <;> simp_all
theorem enc_has (m : Nm) (s : List UInt8) : Maps.has (enc m) (.string s) = (get m s).isSome := by
  unfold enc get
  have e : (m.map lit1).any (fun p => p.1.sameKey (.string s)) = ((m.map lit1).find? (fun p => p.1.sameKey (.string s))).isSome := by
    rw [Bool.eq_iff_iff, List.find?_isSome, List.any_eq_true]
  rw [Maps.has_eq, e, enc_find]
  simp
theorem enc_at (m : Nm) (s : List UInt8) (z : DataW Unit) {i : Nat} (h : get m s = some i) : (enc m).atKey (.string s) z = .lit (.int .i64 (i : Int)) := by
  unfold enc DataW.atKey
  simp only
  rw [enc_find]
  unfold get at h
  cases hf : m.find? (fun p => p.1 == s) with
  | none => rw [hf] at h; cases h
  | some p => rw [hf] at h; simp at h; simp [lit1, h]
theorem enc_size (m : Nm) : Maps.size (enc m) = m.length := by simp [enc, Maps.size_eq]
theorem get_mem {m : Nm} {s : List UInt8} {i : Nat} (h : get m s = some i) : (s, i) ∈ m := by
  unfold get at h
  cases hf : m.find? (fun p => p.1 == s) with
  | none => rw [hf] at h; cases h
  | some p =>
    rw [hf] at h
    have h1 := List.mem_of_find?_eq_some hf
    have h2 := List.find?_some hf
    simp at h h2
    subst h
    subst h2
    exact h1
theorem mem_ins {x y : List UInt8 × Nat} : ∀ {m : Nm}, y ∈ ins x m ↔ y = x ∨ y ∈ m
  | [] => by simp [ins]
  | z :: r => by
    have ih := @mem_ins x y r
    simp only [ins]
    split
    · simp
    · simp [ih, or_left_comm]
theorem mem_del {m : Nm} {s : List UInt8} {p : List UInt8 × Nat} : p ∈ del m s ↔ p ∈ m ∧ p.1 ≠ s := by simp [del]
theorem mem_put {m : Nm} {s : List UInt8} {i : Nat} {p : List UInt8 × Nat} : p ∈ put m s i ↔ p = (s, i) ∨ (p ∈ m ∧ p.1 ≠ s) := by rw [put, mem_ins, mem_del]
theorem mem_get {m : Nm} (h : Apart m) {s : List UInt8} {i : Nat} (hm : (s, i) ∈ m) : get m s = some i := by
  unfold Apart at h
  induction m with
  | nil => cases hm
  | cons y r ih =>
    obtain ⟨h1, h2⟩ := List.pairwise_cons.1 h
    unfold get
    rw [List.find?_cons]
    rcases List.mem_cons.1 hm with rfl | hm
    · simp
    · have := h1 _ hm
      simp only at this
      rw [show (y.1 == s) = false from by simpa using this]
      exact ih h2 hm
theorem length_ins (x : List UInt8 × Nat) : ∀ m : Nm, (ins x m).length = m.length + 1
  | [] => rfl
  | y :: r => by
    simp only [ins]
    split
    · simp
    · simp [length_ins x r]
theorem apart_del {m : Nm} (h : Apart m) (s : List UInt8) : Apart (del m s) := List.Pairwise.filter _ h
theorem apart_ins {x : List UInt8 × Nat} : ∀ {m : Nm}, Apart m → (∀ p ∈ m, p.1 ≠ x.1) → Apart (ins x m)
  | [], _, _ => by simp [ins, Apart]
  | y :: r, h, hx => by
    obtain ⟨h1, h2⟩ := List.pairwise_cons.1 h
    simp only [ins]
    split
    · exact List.pairwise_cons.2 ⟨fun p hp => fun e => hx p hp e.symm, h⟩
    · refine List.pairwise_cons.2 ⟨fun p hp => ?_, apart_ins h2 (fun p hp => hx p (by simp [hp]))⟩
      rcases mem_ins.1 hp with rfl | hp
      · exact hx y (by simp)
      · exact h1 p hp
theorem apart_put {m : Nm} (h : Apart m) (s : List UInt8) (i : Nat) : Apart (put m s i) := apart_ins (apart_del h s) (fun _ hp => (mem_del.1 hp).2)
theorem get_none {m : Nm} {s : List UInt8} : get m s = none ↔ ∀ p ∈ m, p.1 ≠ s := by
  unfold get
  simp
theorem get_del_same (m : Nm) (s : List UInt8) : get (del m s) s = none := get_none.2 fun _ hp => (mem_del.1 hp).2
theorem get_del_other {m : Nm} (h : Apart m) {s t : List UInt8} (hne : t ≠ s) : get (del m s) t = get m t := by
  cases hg : get m t with
  | none => exact get_none.2 fun p hp => get_none.1 hg p (mem_del.1 hp).1
  | some i => exact mem_get (apart_del h s) (mem_del.2 ⟨get_mem hg, hne⟩)
theorem get_put_same {m : Nm} (h : Apart m) (s : List UInt8) (i : Nat) : get (put m s i) s = some i := mem_get (apart_put h s i) (mem_put.2 (.inl rfl))
theorem get_put_other {m : Nm} (h : Apart m) {s t : List UInt8} (hne : t ≠ s) (i : Nat) : get (put m s i) t = get m t := by
  cases hg : get m t with
  | none =>
    refine get_none.2 fun p hp => ?_
    rcases mem_put.1 hp with rfl | ⟨hp, _⟩
    · exact fun e => hne e.symm
    · exact get_none.1 hg p hp
  | some j => exact mem_get (apart_put h s i) (mem_put.2 (.inr ⟨get_mem hg, hne⟩))
theorem length_del_le (m : Nm) (s : List UInt8) : (del m s).length ≤ m.length := List.length_filter_le _ _
theorem length_del_lt {m : Nm} {s : List UInt8} {i : Nat} (h : get m s = some i) : (del m s).length < m.length := by
  have hm := get_mem h
  unfold del
  refine List.length_filter_lt_length_iff_exists.2 ⟨_, hm, by simp⟩
theorem length_put_le (m : Nm) (s : List UInt8) (i : Nat) : (put m s i).length ≤ m.length + 1 := by
  rw [put, length_ins]
  have := length_del_le m s
  omega
end Nm

/-- What was done to names: 1 Create, 2 Rename, 3 Remove. -/
structure Tn where
  kind : Nat
  file : Nat
  a : List UInt8
  b : List UInt8
def Tn.go (t : Tn) (m : Nm) : Nm :=
  if t.kind = 1 then m.put t.a t.file
  else if t.kind = 2 then match m.get t.a with
    | some i => (m.put t.b i).del t.a
    | none => m
  else if t.kind = 3 then m.del t.a
  else m

/-- A disk. A file is its bytes and how many of them last. -/
structure Sd where
  quota : Nat
  files : List (List UInt8 × Nat)
  names : Nm
  lasted : Nm
  turns : List Tn
  calls : Int
  dead : Bool
  stop : Nat
  fail : Nat
namespace Sd
variable (d : Sd)

def okCh (c : UInt8) : Bool := (decide (97 ≤ c.toNat) && decide (c.toNat ≤ 122)) || (decide (48 ≤ c.toNat) && decide (c.toNat ≤ 57)) || decide (c.toNat = 46)
/-- A name that may be. -/
def named (s : List UInt8) : Bool := decide (1 ≤ s.length) && decide (s.length ≤ 16) && s.all okCh
def new (quota : Int) : Sd := ⟨quota.toNat, [], [], [], [], 0, false, 0, 0⟩
/-- A call that counts: the disk, and the error that ends it. -/
def call (names : List (List UInt8)) : Sd × Nat :=
  if names.all named = false then (d, 10)
  else
    let d1 := { d with calls := wrap64 (d.calls + 1) }
    if d.dead = true then (d1, 50)
    else
      let d2 := if 0 < d.stop then { d1 with stop := d.stop - 1, dead := decide (d.stop - 1 = 0) } else d1
      if 0 < d.fail then
        let d3 := { d2 with fail := d.fail - 1 }
        if d.fail - 1 = 0 then (d3, 15) else (d3, 0)
      else (d2, 0)
def size (i : Nat) : Nat := (d.files.getD i ([], 0)).1.length
def used : Nat := (d.names.map fun p => d.size p.2).sum
def create (s : List UInt8) : Sd × Nat :=
  let c := d.call [s]
  if c.2 ≠ 0 then c
  else if (d.names.get s).isSome then (c.1, 12)
  else if 64 ≤ d.names.length then (c.1, 65)
  else ({ c.1 with names := d.names.put s d.files.length, turns := d.turns ++ [⟨1, d.files.length, s, []⟩], files := d.files ++ [([], 0)] }, 0)
def append (s b : List UInt8) : Sd × Nat :=
  let c := d.call [s]
  if c.2 ≠ 0 then c
  else match d.names.get s with
    | none => (c.1, 11)
    | some i =>
      if 250000 < b.length ∨ 250000 < d.size i + b.length then (c.1, 2)
      else if d.quota < d.used + b.length then (c.1, 15)
      else ({ c.1 with files := d.files.set i ((d.files.getD i ([], 0)).1 ++ b, (d.files.getD i ([], 0)).2) }, 0)
def read (s : List UInt8) : List UInt8 × Nat :=
  if named s = false then ([], 10)
  else if d.dead = true then ([], 50)
  else match d.names.get s with
    | none => ([], 11)
    | some i => ((d.files.getD i ([], 0)).1, 0)
def sync (s : List UInt8) : Sd × Nat :=
  let c := d.call [s]
  if c.2 ≠ 0 then c
  else match d.names.get s with
    | none => (c.1, 11)
    | some i => ({ c.1 with files := d.files.set i ((d.files.getD i ([], 0)).1, d.size i) }, 0)
def rename (a b : List UInt8) : Sd × Nat :=
  let c := d.call [a, b]
  if c.2 ≠ 0 then c
  else if (d.names.get a).isNone then (c.1, 11)
  else if a = b then (c.1, 0)
  else ({ c.1 with names := Tn.go ⟨2, 0, a, b⟩ d.names, turns := d.turns ++ [⟨2, 0, a, b⟩] }, 0)
def remove (s : List UInt8) : Sd × Nat :=
  let c := d.call [s]
  if c.2 ≠ 0 then c
  else if (d.names.get s).isNone then (c.1, 11)
  else ({ c.1 with names := Tn.go ⟨3, 0, s, []⟩ d.names, turns := d.turns ++ [⟨3, 0, s, []⟩] }, 0)
def syncDir : Sd × Nat :=
  let c := d.call []
  if c.2 ≠ 0 then c
  else ({ c.1 with lasted := d.names, turns := [] }, 0)
def list : List (List UInt8) := if d.dead = true then [] else (d.names.map (·.1)).mergeSort fun x y => decide (x ≤ y)
def setStop (n : Int) : Sd := { d with stop := n.toNat, dead := d.dead || decide (n = 0) }
def setFail (n : Int) : Sd := { d with fail := n.toNat }
/-- The files that names lead to, or led to. -/
def isLed (i : Nat) : Bool := (d.turns.any fun t => decide (t.kind = 1) && decide (t.file = i)) || (d.names.any fun p => decide (p.2 = i)) || (d.lasted.any fun p => decide (p.2 = i))
def led : List Nat := (List.range d.files.length).filter d.isLed
/-- One number of those that tell what is kept, and what is left of them. -/
def next (keep : List Int) (none_ : Int) : Int × List Int := match keep with
  | [] => (none_, [])
  | n :: r => (n, r)
/-- How many bytes of those that do not last are kept. -/
def kept (n : Nat) (x : Int) : Nat := (x % (n + 1 : Int)).toNat
def cutFiles : List Nat → List (List UInt8 × Nat) → List Int → List (List UInt8 × Nat) × List Int
  | [], fs, keep => (fs, keep)
  | i :: r, fs, keep =>
    let f := fs.getD i ([], 0)
    let n := f.1.length - f.2
    if n = 0 then cutFiles r fs keep
    else
      let x := next keep n
      let b := f.1.take (f.2 + kept n x.1)
      cutFiles r (fs.set i (b, b.length)) x.2
def doTurns : List Tn → Nm → List Int → Nm
  | [], m, _ => m
  | t :: r, m, keep =>
    let x := next keep 0
    doTurns r (if x.1 % 2 = 0 then t.go m else m) x.2
def crash (keep : List Int) : Sd :=
  let c := cutFiles d.led d.files keep
  let m := doTurns d.turns d.lasted c.2
  { d with files := c.1, names := m, lasted := m, turns := [], dead := false, stop := 0, fail := 0 }

/-- How much memory a disk's lists take. -/
def load : Nat := d.files.length + d.turns.length
/-- Names lead to files that are there. -/
def Leads (m : Nm) (n : Nat) : Prop := ∀ p ∈ m, p.2 < n
structure Wf : Prop where
  quota : d.quota ≤ 1099511627776
  file : ∀ i (h : i < d.files.length), d.files[i].2 ≤ d.files[i].1.length ∧ d.files[i].1.length ≤ 250000
  names : Leads d.names d.files.length
  lasted : Leads d.lasted d.files.length
  apart : Nm.Apart d.names
  lapart : Nm.Apart d.lasted
  most : d.names.length ≤ 64
  turn : ∀ t ∈ d.turns, t.file ≤ d.files.length ∧ (t.kind = 1 → t.file < d.files.length)
  gnames : ∀ p ∈ d.names, named p.1 = true
  glasted : ∀ p ∈ d.lasted, named p.1 = true
  gturns : ∀ t ∈ d.turns, named t.a = true ∧ (t.kind = 2 → named t.b = true) ∧ (t.kind = 1 ∨ t.kind = 2 ∨ t.kind = 3)
  stop : d.stop ≤ 9223372036854775807
  fail : d.fail ≤ 9223372036854775807
end Sd
end Go.Proofs.YthepokgkfaocmaaGreatDoor

/-
  Plain facts of a disk's calls: what stays, and that names go on leading to files that are there.
-/
namespace Go.Proofs.YthepokgkfaocmaaGreatDoor
open Go Go.RowKit
namespace Sd
variable {d : Sd}

theorem call_cases (d : Sd) (l : List (List UInt8)) : (d.call l = (d, 10) ∧ l.all named = false) ∨ ∃ de st fa er, d.call l = ({ d with calls := wrap64 (d.calls + 1), dead := de, stop := st, fail := fa }, er) ∧ l.all named = true ∧ st ≤ d.stop ∧ fa ≤ d.fail ∧ (er = 0 ∨ er = 15 ∨ er = 50) := by
  cases hl : l.all named with
  | false => exact .inl ⟨by simp [call, hl], rfl⟩
  | true =>
    refine .inr ?_
    cases hd : d.dead with
    | true => exact ⟨true, d.stop, d.fail, 50, by simp [call, hl, hd], rfl, Nat.le_refl _, Nat.le_refl _, .inr (.inr rfl)⟩
    | false =>
      by_cases hs : 0 < d.stop <;> by_cases hf : 0 < d.fail <;> by_cases h1 : d.fail - 1 = 0
      all_goals first
        | exact ⟨_, d.stop - 1, d.fail - 1, _, by simp only [call, hl, hd, hs, hf, h1, if_true, if_false]; rfl, rfl, by omega, by omega, by simp⟩
        | exact ⟨_, d.stop - 1, d.fail, _, by simp only [call, hl, hd, hs, hf, h1, if_true, if_false]; rfl, rfl, by omega, by omega, by simp⟩
        | exact ⟨_, d.stop, d.fail - 1, _, by simp only [call, hl, hd, hs, hf, h1, if_true, if_false]; rfl, rfl, by omega, by omega, by simp⟩
        | exact ⟨_, d.stop, d.fail, _, by simp only [call, hl, hd, hs, hf, h1, if_true, if_false]; rfl, rfl, by omega, by omega, by simp⟩
theorem call_same (d : Sd) (l : List (List UInt8)) : (d.call l).1.names = d.names ∧ (d.call l).1.lasted = d.lasted ∧ (d.call l).1.files = d.files ∧ (d.call l).1.turns = d.turns ∧ (d.call l).1.quota = d.quota ∧ (d.call l).1.stop ≤ d.stop ∧ (d.call l).1.fail ≤ d.fail := by
  rcases call_cases d l with ⟨h, _⟩ | ⟨de, st, fa, er, h, _, h1, h2, _⟩ <;> rw [h]
  · exact ⟨rfl, rfl, rfl, rfl, rfl, Nat.le_refl _, Nat.le_refl _⟩
  · exact ⟨rfl, rfl, rfl, rfl, rfl, h1, h2⟩
theorem Wf.call (h : d.Wf) (l : List (List UInt8)) : (d.call l).1.Wf := by
  obtain ⟨e1, e2, e3, e4, e5, e6, e7⟩ := call_same d l
  obtain ⟨a1, a2, a3, a4, a5, a6, a7, a8, b1, b2, b3, a9, a10⟩ := h
  exact ⟨by rw [e5]; exact a1, by rw [e3]; exact a2, by rw [e1, e3]; exact a3, by rw [e2, e3]; exact a4, by rw [e1]; exact a5, by rw [e2]; exact a6, by rw [e1]; exact a7, by rw [e3, e4]; exact a8, by rw [e1]; exact b1, by rw [e2]; exact b2, by rw [e4]; exact b3, by omega, by omega⟩
theorem call_load (d : Sd) (l : List (List UInt8)) : (d.call l).1.load = d.load := by
  obtain ⟨e1, e2, e3, e4, e5, _⟩ := call_same d l
  simp [load, e3, e4]
theorem call_used (d : Sd) (l : List (List UInt8)) : (d.call l).1.used = d.used := by
  obtain ⟨e1, e2, e3, e4, e5, _⟩ := call_same d l
  simp [used, size, e1, e3]
theorem size_le (h : d.Wf) (i : Nat) : d.size i ≤ 250000 := by
  unfold size
  by_cases hi : i < d.files.length
  · have := (h.file i hi).2
    simp [List.getD_eq_getElem?_getD, hi]
    exact this
  · simp [List.getD_eq_getElem?_getD, Nat.le_of_not_lt hi]
theorem used_le (h : d.Wf) : d.used ≤ 16000000 := by
  have hm := h.most
  have hs := size_le h
  unfold used
  have : ∀ m : Nm, (m.map fun p => d.size p.2).sum ≤ m.length * 250000 := by
    intro m
    induction m with
    | nil => simp
    | cons p r ih =>
      have := hs p.2
      simp only [List.map_cons, List.sum_cons, List.length_cons]
      omega
  have := this d.names
  omega
theorem Leads.mono {m : Nm} {n k : Nat} (h : Leads m n) (hk : n ≤ k) : Leads m k := fun p hp => Nat.lt_of_lt_of_le (h p hp) hk
theorem Leads.put {m : Nm} {n : Nat} (h : Leads m n) (s : List UInt8) {i : Nat} (hi : i < n) : Leads (m.put s i) n := by
  intro p hp
  rcases Nm.mem_put.1 hp with rfl | ⟨hp, _⟩
  · exact hi
  · exact h p hp
theorem Leads.del {m : Nm} {n : Nat} (h : Leads m n) (s : List UInt8) : Leads (m.del s) n := fun p hp => h p (Nm.mem_del.1 hp).1
theorem Leads.go {m : Nm} {n : Nat} (h : Leads m n) (t : Tn) (ht : t.kind = 1 → t.file < n) : Leads (t.go m) n := by
  unfold Tn.go
  split
  · exact h.put _ (ht ‹_›)
  · split
    · split
      · rename_i i hg
        exact (h.put _ (h _ (Nm.get_mem hg))).del _
      · exact h
    · split
      · exact h.del _
      · exact h
theorem apart_go {m : Nm} (h : Nm.Apart m) (t : Tn) : Nm.Apart (t.go m) := by
  unfold Tn.go
  split
  · exact Nm.apart_put h _ _
  · split
    · split
      · exact Nm.apart_del (Nm.apart_put h _ _) _
      · exact h
    · split
      · exact Nm.apart_del h _
      · exact h
/-- A Rename makes no more names, a Remove fewer. -/
theorem length_go {m : Nm} (h : Nm.Apart m) (t : Tn) (hk : t.kind ≠ 1) (hne : t.a ≠ t.b) : (t.go m).length ≤ m.length := by
  unfold Tn.go
  rw [if_neg hk]
  split
  · split
    · rename_i i hg
      have h1 : ((m.put t.b i).get t.a) = some i := by rw [Nm.get_put_other h hne]; exact hg
      have h2 := Nm.length_del_lt h1
      have h3 := Nm.length_put_le m t.b i
      omega
    · exact Nat.le_refl _
  · split
    · exact Nm.length_del_le _ _
    · exact Nat.le_refl _
theorem new_wf (q : Int) (h : q ≤ 1099511627776) : (new q).Wf :=
  ⟨by simp [new]; omega, fun i h => by simp [new] at h, fun p hp => (by cases hp), fun p hp => (by cases hp), List.Pairwise.nil, List.Pairwise.nil, by simp [new], fun t ht => (by cases ht), fun p hp => (by cases hp), fun p hp => (by cases hp), fun t ht => (by cases ht), by simp [new], by simp [new]⟩
theorem named_ne {s : List UInt8} (h : named s = true) : s ≠ [] := by
  intro e
  subst e
  simp [named] at h
theorem call_ok {l : List (List UInt8)} (h : (d.call l).2 = 0) : l.all named = true := by
  rcases call_cases d l with ⟨e, _⟩ | ⟨de, st, fa, er, _, h1, _⟩
  · rw [e] at h; cases h
  · exact h1
theorem Wf.create (h : d.Wf) (s : List UInt8) : (d.create s).1.Wf := by
  have hc := h.call [s]
  obtain ⟨e1, e2, e3, e4, e5, e6, e7⟩ := call_same d [s]
  unfold Sd.create
  dsimp only
  split
  · exact hc
  · rename_i h0
    have hs : named s = true := by simpa using call_ok (Decidable.not_not.1 h0)
    split
    · exact hc
    · split
      · exact hc
      · rename_i hn hm
        obtain ⟨a1, a2, a3, a4, a5, a6, a7, a8, b1, b2, b3, a9, a10⟩ := h
        have hl := Nm.length_put_le d.names s d.files.length
        refine ⟨by rw [e5]; exact a1, fun i hi => ?_, ?_, ?_, Nm.apart_put a5 _ _, by rw [e2]; exact a6, by dsimp only; omega, ?_, ?_, by rw [e2]; exact b2, ?_, by dsimp only; omega, by dsimp only; omega⟩
        · dsimp only at hi ⊢
          rcases Nat.lt_or_ge i d.files.length with h1 | h1
          · rw [List.getElem_append_left h1]; exact a2 i h1
          · rw [List.getElem_append_right h1]
            simp
        · exact (a3.mono (by simp)).put _ (by simp)
        · dsimp only
          rw [e2]
          exact a4.mono (by simp)
        · intro t ht
          simp only [List.mem_append, List.mem_singleton] at ht
          rcases ht with ht | rfl
          · have := a8 t ht
            simp only [List.length_append, List.length_singleton]
            exact ⟨by omega, fun hk => by have := this.2 hk; omega⟩
          · simp
        · intro p hp
          rcases Nm.mem_put.1 hp with rfl | ⟨hp, _⟩
          · exact hs
          · exact b1 p hp
        · intro t ht
          simp only [List.mem_append, List.mem_singleton] at ht
          rcases ht with ht | rfl
          · exact b3 t ht
          · exact ⟨hs, fun e => (by cases e), .inl rfl⟩
theorem Wf.setFile (h : d.Wf) (i : Nat) (f : List UInt8 × Nat) (h1 : f.2 ≤ f.1.length) (h2 : f.1.length ≤ 250000) : ({ d with files := d.files.set i f } : Sd).Wf := by
  obtain ⟨a1, a2, a3, a4, a5, a6, a7, a8, b1, b2, b3, a9, a10⟩ := h
  refine ⟨a1, fun j hj => ?_, by simpa using a3, by simpa using a4, a5, a6, a7, by simpa using a8, b1, b2, b3, a9, a10⟩
  simp only [List.length_set] at hj
  simp only [List.getElem_set]
  split
  · exact ⟨h1, h2⟩
  · exact a2 j hj
theorem getD_file (h : d.Wf) {i : Nat} (hi : i < d.files.length) : (d.files.getD i ([], 0)).2 ≤ (d.files.getD i ([], 0)).1.length ∧ (d.files.getD i ([], 0)).1.length ≤ 250000 := by
  have := h.file i hi
  simpa [List.getD_eq_getElem?_getD, hi] using this
theorem Wf.append (h : d.Wf) (s b : List UInt8) : (d.append s b).1.Wf := by
  have hc := h.call [s]
  obtain ⟨e1, e2, e3, e4, e5, e6, e7⟩ := call_same d [s]
  unfold Sd.append
  dsimp only
  split
  · exact hc
  · split
    · exact hc
    · rename_i i hg
      split
      · exact hc
      · rename_i hlen
        split
        · exact hc
        · have hi := h.names _ (Nm.get_mem hg)
          obtain ⟨q1, q2⟩ : (d.files.getD i ([], 0)).2 ≤ (d.files.getD i ([], 0)).1.length ∧ (d.files.getD i ([], 0)).1.length ≤ 250000 := getD_file h hi
          unfold Sd.size at hlen
          have h2 := hc.setFile i ((d.files.getD i ([], 0)).1 ++ b, (d.files.getD i ([], 0)).2) (by simp only [List.length_append]; omega) (by simp only [List.length_append]; omega)
          rwa [e3] at h2
theorem Wf.sync (h : d.Wf) (s : List UInt8) : (d.sync s).1.Wf := by
  have hc := h.call [s]
  obtain ⟨e1, e2, e3, e4, e5, e6, e7⟩ := call_same d [s]
  unfold Sd.sync
  dsimp only
  split
  · exact hc
  · split
    · exact hc
    · rename_i i hg
      have hi : i < d.files.length := h.names _ (Nm.get_mem hg)
      have := getD_file h hi
      have h2 := hc.setFile i ((d.files.getD i ([], 0)).1, d.size i) (by simp [Sd.size]) this.2
      rwa [e3] at h2
theorem go_named {m : Nm} (h : ∀ p ∈ m, named p.1 = true) (t : Tn) (ht : named t.a = true ∧ (t.kind = 2 → named t.b = true)) : ∀ p ∈ t.go m, named p.1 = true := by
  intro p hp
  unfold Tn.go at hp
  split at hp
  · rcases Nm.mem_put.1 hp with rfl | ⟨hp, _⟩
    · exact ht.1
    · exact h p hp
  · split at hp
    · split at hp
      · rcases Nm.mem_put.1 (Nm.mem_del.1 hp).1 with rfl | ⟨hp, _⟩
        · exact ht.2 ‹_›
        · exact h p hp
      · exact h p hp
    · split at hp
      · exact h p (Nm.mem_del.1 hp).1
      · exact h p hp
theorem Wf.setNames (h : d.Wf) (t : Tn) (hk : t.kind ≠ 1) (hf : t.file = 0) (hne : t.a ≠ t.b) (hg : named t.a = true ∧ (t.kind = 2 → named t.b = true) ∧ (t.kind = 1 ∨ t.kind = 2 ∨ t.kind = 3)) : ({ d with names := t.go d.names, turns := d.turns ++ [t] } : Sd).Wf := by
  obtain ⟨a1, a2, a3, a4, a5, a6, a7, a8, b1, b2, b3, a9, a10⟩ := h
  refine ⟨a1, a2, a3.go t (fun e => absurd e hk), a4, apart_go a5 t, a6, Nat.le_trans (length_go a5 t hk hne) a7, fun u hu => ?_, go_named b1 t ⟨hg.1, hg.2.1⟩, b2, fun u hu => ?_, a9, a10⟩
  · simp only [List.mem_append, List.mem_singleton] at hu
    rcases hu with hu | rfl
    · exact a8 u hu
    · exact ⟨by rw [hf]; exact Nat.zero_le _, fun e => absurd e hk⟩
  · simp only [List.mem_append, List.mem_singleton] at hu
    rcases hu with hu | rfl
    · exact b3 u hu
    · exact hg
theorem Wf.rename (h : d.Wf) (a b : List UInt8) : (d.rename a b).1.Wf := by
  have hc := h.call [a, b]
  obtain ⟨e1, e2, e3, e4, e5, e6, e7⟩ := call_same d [a, b]
  unfold Sd.rename
  dsimp only
  split
  · exact hc
  · rename_i h0
    have hs : named a = true ∧ named b = true := by simpa using call_ok (Decidable.not_not.1 h0)
    split
    · exact hc
    · split
      · exact hc
      · rename_i hne
        have h2 := hc.setNames ⟨2, 0, a, b⟩ (by simp) rfl hne ⟨hs.1, fun _ => hs.2, .inr (.inl rfl)⟩
        rwa [e1, e4] at h2
theorem Wf.remove (h : d.Wf) (s : List UInt8) : (d.remove s).1.Wf := by
  have hc := h.call [s]
  obtain ⟨e1, e2, e3, e4, e5, e6, e7⟩ := call_same d [s]
  unfold Sd.remove
  dsimp only
  split
  · exact hc
  · rename_i h0
    split
    · exact hc
    · have hs : named s = true := by simpa using call_ok (Decidable.not_not.1 h0)
      have h2 := hc.setNames ⟨3, 0, s, []⟩ (by simp) rfl (named_ne hs) ⟨hs, fun e => (by cases e), .inr (.inr rfl)⟩
      rwa [e1, e4] at h2
theorem Wf.syncDir (h : d.Wf) : (d.syncDir).1.Wf := by
  have hc := h.call []
  obtain ⟨e1, e2, e3, e4, e5, e6, e7⟩ := call_same d []
  unfold Sd.syncDir
  dsimp only
  split
  · exact hc
  · obtain ⟨a1, a2, a3, a4, a5, a6, a7, a8, b1, b2, b3, a9, a10⟩ := hc
    rw [e1] at a3 a5
    rw [e1] at b1
    exact ⟨a1, a2, by rw [e1]; exact a3, a3, by rw [e1]; exact a5, a5, a7, fun t ht => (by cases ht), by rw [e1]; exact b1, b1, fun t ht => (by cases ht), a9, a10⟩
theorem Wf.setStop (h : d.Wf) (n : Int) (hn : n ≤ 9223372036854775807) : (d.setStop n).Wf := by
  obtain ⟨a1, a2, a3, a4, a5, a6, a7, a8, b1, b2, b3, a9, a10⟩ := h
  exact ⟨a1, a2, a3, a4, a5, a6, a7, a8, b1, b2, b3, by simp only [Sd.setStop]; omega, a10⟩
theorem Wf.setFail (h : d.Wf) (n : Int) (hn : n ≤ 9223372036854775807) : (d.setFail n).Wf := by
  obtain ⟨a1, a2, a3, a4, a5, a6, a7, a8, b1, b2, b3, a9, a10⟩ := h
  exact ⟨a1, a2, a3, a4, a5, a6, a7, a8, b1, b2, b3, a9, by simp only [Sd.setFail]; omega⟩
end Sd
end Go.Proofs.YthepokgkfaocmaaGreatDoor
