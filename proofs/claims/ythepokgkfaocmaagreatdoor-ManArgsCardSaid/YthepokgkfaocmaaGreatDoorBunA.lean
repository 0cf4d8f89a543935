/- Texts Mem, PlainSum, Bits, SumA, Seal, PlainNum, Chg, NumA, NumB, NumC in one. No conditions. -/
import Derived.Maps.AppendAt
import Derived.Deep.AppendLies
import Derived.Deep.Draws
import Derived.Laws.OwnMore
import Derived.Laws.BytesString
import Derived.Below
import Derived.OwnWalk
import Derived.Laws.BitsAllLaws
import Derived.Laws.BitsLemmas
import Derived.Test.YthepokgkfaocmaaGreatDoorRows
import Derived.Lib.Hide
import Derived.WalkKit
import Derived.WalkSpells
import Derived.WalkLawsBesides

/-
  Words for memory: a slice whose elements are known ('Row'), and how it is kept; what an append of a row onto a row of the call's own gives. Plain facts on worlds; no function of the program.
-/
namespace Go.Proofs.YthepokgkfaocmaaGreatDoor
open Go Go.RowKit

theorem add_block (a : Addr) (n : Nat) : (a.add n).block = a.block := by
  unfold Addr.add
  split <;> rfl
theorem add_zero_ (a : Addr) : a.add 0 = a := rfl
theorem add_twice (a : Addr) (i j : Nat) : (a.add i).add j = a.add (i + j) := by
  unfold Addr.add
  rcases Nat.eq_zero_or_pos i with hi | hi <;> rcases Nat.eq_zero_or_pos j with hj | hj
  · simp [hi, hj]
  · rw [if_neg (by omega : ¬ j = 0), if_pos hi, if_neg (by omega), hi, Nat.zero_add]
  · rw [if_pos hj, hj, if_neg (by omega), if_neg (by omega)]
    rfl
  · rw [if_neg (by omega : ¬ j = 0), if_neg (by omega : ¬ i = 0), if_neg (by omega)]
    simp only [Nat.add_assoc]

/-- The slice of n elements of 'size' cells each at A reads as the cells xs, in a block below B. -/
structure Row (B : Nat) (w : World) (A : Option Addr) (n size : Nat) (xs : List Value) : Prop where
  len : xs.length = n * size
  cell : ∀ j (h : j < xs.length), ∃ a, A = some a ∧ a.block < B ∧ w.cell? (a.add j) = some (xs[j])

variable {B B' n size : Nat} {w w' : World} {A : Option Addr} {xs : List Value}
theorem Row.nil_ : Row B w A 0 size [] := ⟨by simp, fun j h => absurd h (by simp)⟩
theorem Row.up (h : Row B w A n size xs) (hB : B ≤ B') : Row B' w A n size xs :=
  ⟨h.len, fun j hj => let ⟨a, e, b, c⟩ := h.cell j hj; ⟨a, e, by omega, c⟩⟩
theorem Row.keep (h : Row B w A n size xs) (hk : ∀ p : Addr, p.block < B → w'.cell? p = w.cell? p) : Row B w' A n size xs :=
  ⟨h.len, fun j hj => let ⟨a, e, b, c⟩ := h.cell j hj; ⟨a, e, b, (hk _ (by rw [add_block]; exact b)).trans c⟩⟩
theorem Row.below (h : Row B w A n size xs) (hb : Below B w w') : Row B w' A n size xs := h.keep fun _ hp => hb.cell hp
theorem Row.go (h : Row B w A n size xs) (hB : B ≤ B') (hb : Below B' w w') : Row B w' A n size xs := h.below (hb.mono hB)
/-- As an argument: below the heap's size of the world in which the call begins. -/
theorem Row.arg (h : Row B w A n size xs) (hB : B ≤ w.heap.size) : Row w.heap.size w A n size xs := h.up hB
theorem Row.alloc (h : Row B w A n size xs) (hB : B ≤ w.heap.size) (o : Obj) : Row B (w.alloc o) A n size xs :=
  h.keep fun p hp => World.cell?_alloc_lt w o p (by omega)
theorem Row.drew (h : Row B w A n size xs) : Row B w.drew A n size xs := h.keep fun _ _ => rfl
theorem Row.drewN (h : Row B w A n size xs) (k : Nat) : Row B (w.drewN k) A n size xs := h.keep fun _ _ => rfl
theorem Row.setCell (h : Row B w A n size xs) {p : Addr} (hB : B ≤ p.block) (u : Value) : Row B (w.setCell p u) A n size xs :=
  h.keep fun q hq => World.cell?_setCell_other w p q u (fun e => by subst e; omega)
theorem Row.grown (h : Row B w A n size xs) {row : Option Nat} (hg : w.grownBy w' row) (hB : B ≤ w.heap.size) (hr : ∀ g, row = some g → B ≤ g) : Row B w' A n size xs :=
  h.below ((Below.refl B w).grown hg hB hr)
/-- The cell of an element of one cell, where there is one. -/
theorem Row.at1 (h : Row B w A n 1 xs) {k : Nat} (hk : k < n) : ∃ a v, A = some a ∧ a.block < B ∧ xs[k]? = some v ∧ w.cell? (a.add k) = some v := by
  have hl : k < xs.length := by have := h.len; omega
  obtain ⟨a, e, b, c⟩ := h.cell k hl
  exact ⟨a, xs[k], e, b, List.getElem?_eq_getElem hl, c⟩
theorem Row.some_ (h : Row B w A n size xs) (hn : 0 < xs.length) : ∃ a, A = some a ∧ a.block < B := by
  obtain ⟨a, e, b, _⟩ := h.cell 0 hn
  exact ⟨a, e, b⟩
theorem Row.cells {a : Addr} (h : Row B w (some a) n size xs) : ∀ j u, xs[j]? = some u → w.cell? (a.add j) = some u := by
  intro j u hu
  obtain ⟨hl, rfl⟩ := List.getElem?_eq_some_iff.1 hu
  obtain ⟨a', e, _, c⟩ := h.cell j hl
  injection e with e
  subst e
  exact c
/-- A cut 's[k:m]' of elements of 'size' cells; the model leaves the address where nothing is left of the capacity. -/
theorem Row.cut (h : Row B w A n size xs) {k m : Nat} (hk : k ≤ m) (hm : m ≤ n) {A' : Option Addr} (hA : k < m → A' = A.map (·.add (k * size))) :
    Row B w A' (m - k) size ((xs.drop (k * size)).take ((m - k) * size)) := by
  have hle : (m - k) * size ≤ xs.length - k * size := by
    rw [h.len, ← Nat.sub_mul]
    exact Nat.mul_le_mul_right _ (by omega)
  refine ⟨by rw [List.length_take, List.length_drop]; omega, fun j hj => ?_⟩
  have hj' : j < (m - k) * size := by rw [List.length_take] at hj; omega
  have hkm : k < m := by
    rcases Nat.lt_or_ge k m with h0 | h0
    · exact h0
    · rw [show m - k = 0 from by omega, Nat.zero_mul] at hj'; omega
  obtain ⟨a, rfl, hb, hc⟩ := h.cell (k * size + j) (by omega)
  refine ⟨a.add (k * size), hA hkm, by rw [add_block]; exact hb, ?_⟩
  rw [add_twice, hc]
  simp
theorem Row.pre (h : Row B w A n size xs) {m : Nat} (hm : m ≤ n) : Row B w A m size (xs.take (m * size)) := by
  have := h.cut (A' := A) (Nat.zero_le m) hm (fun _ => by cases A <;> simp [Addr.add])
  simpa using this
/-- A block that was just laid. -/
theorem Row.new (w : World) (cs : Array Value) (e : TypeId) {n size : Nat} (hs : cs.size = n * size) (fr : Nat × Nat := (0, 0)) : Row (w.heap.size + 1) (w.alloc (.cells cs e fr)) (some ⟨w.heap.size, 0, none⟩) n size cs.toList := by
  refine ⟨by simpa using hs, fun j hj => ⟨_, rfl, by simp, ?_⟩⟩
  have : ((⟨w.heap.size, 0, none⟩ : Addr).add j) = ⟨w.heap.size, j, none⟩ := by
    unfold Addr.add
    split <;> simp_all
  rw [this, cell_of_row _ _ _ _ _ _ (heap_alloc_new w _)]
  simp at hj ⊢
theorem Row.own {base : Nat} {e : TypeId} {c : Nat} (h : w.ownsRow base e size (.slice A n c) n xs) : Row w.heap.size w A n size xs := by
  refine ⟨h.1, fun j hj => ?_⟩
  rcases h.2 with ⟨hv, hn⟩ | ⟨g, cap, cur, hv, hb, hg, _, _, _, htake⟩
  · subst hn
    have := h.1
    omega
  · injection hv with hA _ _
    subst hA
    exact ⟨_, rfl, (Array.getElem?_eq_some_iff.1 hg).1, h.cells (g := g) rfl j _ (List.getElem?_eq_getElem hj)⟩

/-- What the call owns, as a slice written out. -/
theorem own_form {base : Nat} {e : TypeId} {v : Value} (h : w.ownsRow base e size v n xs) :
    ∃ A c, v = .slice A n c ∧ n ≤ c ∧ c ≤ maxLen ∧ (∀ a, A = some a → base ≤ a.block ∧ a.block < w.heap.size ∧ a.spot = none ∧ a.off = 0) := by
  rcases h.2 with ⟨rfl, rfl⟩ | ⟨g, cap, cur, rfl, hb, hg, hn, hc, _⟩
  · exact ⟨none, 0, rfl, Nat.le_refl _, Nat.zero_le _, fun a h => by cases h⟩
  · exact ⟨_, cap, rfl, hn, hc, fun a h => by cases h; exact ⟨hb, (Array.getElem?_eq_some_iff.1 hg).1, rfl, rfl⟩⟩
theorem own_below {base : Nat} {e : TypeId} {v : Value} (h : w.ownsRow base e size v n xs) (hb : Below w.heap.size w w') : w'.ownsRow base e size v n xs :=
  h.kept (row := none) ⟨hb.os, hb.tape, hb.output, hb.size, fun k hk _ => hb.block k hk⟩ (by cases v.ownBlock <;> simp)
theorem own_base {base base' : Nat} {e : TypeId} {v : Value} (h : w.ownsRow base e size v n xs) (hb : base' ≤ base) : w.ownsRow base' e size v n xs := by
  refine ⟨h.1, ?_⟩
  rcases h.2 with h0 | ⟨g, cap, cur, rfl, h1, r⟩
  · exact .inl h0
  · exact .inr ⟨g, cap, cur, rfl, by omega, r⟩
/-- An append's frame, for what lies below the base of what is owned. -/
theorem below_own {base : Nat} {e : TypeId} {v : Value} {a : World} (h : Below base a w) (ho : w.ownsRow base e size v n xs) (hg : w.grownBy w' v.ownBlock) (hB : base ≤ w.heap.size) : Below base a w' :=
  h.grown hg hB (fun k hk => (ho.lt k hk).1)
theorem below_drewN {B : Nat} {a w : World} (h : Below B a w) (n : Nat) : Below B a (w.drewN n) := ⟨h.os, h.tape, h.output, h.size, h.block⟩

/-- append of a row, of whatever make, onto a row of the call's own. -/
theorem run_app {P : Program} (w : World) (base : Nat) (t ty e : TypeId) (i : TypeInfo) (z : Value) (size bytes : Nat) (ht : P.underlying t = some (.slice e)) (hi : P.info? e = some i) (hz : i.zero = some z)
    (hsize : i.size = size) (hby : i.bytes = bytes) (hzs : z.cells.size = size) (hsz : 0 < size) (v : Value) (n : Nat) (xs : List Value) (hown : w.ownsRow base e size v n xs)
    (B : Nat) (A : Option Addr) (m c : Nat) (news : List Value) (hr : Row B w A m size news) (h1 : ∀ u ∈ news, u.oneCell' = true)
    (h63 : n + m ≤ maxLen) (hbytes : (n + m) * bytes ≤ 140737488355328) (hbase : base ≤ w.heap.size) :
    ∃ A' c' w', (Builtin.append_ #[t, t] ty #[v, .slice A m c]).run P w = .ok (.slice A' (n + m) c') w' ∧ w'.ownsRow base e size (.slice A' (n + m) c') (n + m) (xs ++ news) ∧ w.grownBy w' v.ownBlock ∧ n + m ≤ c' ∧ c' ≤ maxLen := by
  have pack : ∀ v' w', (Builtin.append_ #[t, t] ty #[v, .slice A m c]).run P w = .ok v' w' → w'.ownsRow base e size v' (n + m) (xs ++ news) → w.grownBy w' v.ownBlock →
      ∃ A' c' w', (Builtin.append_ #[t, t] ty #[v, .slice A m c]).run P w = .ok (.slice A' (n + m) c') w' ∧ w'.ownsRow base e size (.slice A' (n + m) c') (n + m) (xs ++ news) ∧ w.grownBy w' v.ownBlock ∧ n + m ≤ c' ∧ c' ≤ maxLen := by
    intro v' w' h2 h3 h4
    obtain ⟨A', c', rfl, h5, h6, _⟩ := own_form h3
    exact ⟨A', c', w', h2, h3, h4, h5, h6⟩
  rcases Nat.eq_zero_or_pos m with h0 | h0
  · subst h0
    have hn : news = [] := List.eq_nil_of_length_eq_zero (by simpa using hr.len)
    subst hn
    rw [List.append_nil] at pack ⊢
    refine pack v w ?_ hown ⟨rfl, rfl, rfl, Nat.le_refl _, fun _ _ _ => rfl⟩
    rcases hown.2 with ⟨rfl, rfl⟩ | ⟨g, cap, cur, rfl, _, _, hnc, _⟩
    · rcases A with _ | a <;> simp [Builtin.append_, run_underlying ht, sizeOf, typeInfo, hi, Builtin.lenOf, Builtin.firstCells, loadCells, loadCellsFrom]
    · rcases A with _ | a <;> simp [Builtin.append_, run_underlying ht, sizeOf, typeInfo, hi, Builtin.lenOf, Builtin.firstCells, loadCells, loadCellsFrom, hnc, storeCells]
  · have hpos : 0 < news.length := by
      rw [hr.len]
      exact Nat.mul_pos h0 hsz
    obtain ⟨a, rfl, _⟩ := hr.some_ hpos
    obtain ⟨v', w', h2, h3, h4, _⟩ := run_append_own_at (P := P) w base t ty e i z size bytes ht hi hz hsize hby hzs hsz v n xs hown a m c news hr.len hr.cells h1 h63 hbytes hbase
    exact pack v' w' h2 h3 h4

theorem wp_app {P : Program} (w : World) {o : Oper} {a : Act} {K : Act → World → Prop} {Q : Exit → Act → World → Prop} (s x : Operand) (t : TypeId)
    (ho : o.op = .call { callee := .builtin .append, args := #[s, x], argTypes := #[t, t] })
    (base : Nat) (e : TypeId) (i : TypeInfo) (z : Value) (size bytes : Nat) (ht : P.underlying t = some (.slice e)) (hi : P.info? e = some i) (hz : i.zero = some z)
    (hsize : i.size = size) (hby : i.bytes = bytes) (hzs : z.cells.size = size) (hsz : 0 < size) (w0 : World) (hb : Below base w0 w) (hbase : base ≤ w.heap.size) (v : Value) (n : Nat) (xs : List Value) (hs : a.eval s = v) (hown : w.ownsRow base e size v n xs)
    (B : Nat) (A : Option Addr) (m c : Nat) (news : List Value) (hx : a.eval x = .slice A m c) (hr : Row B w A m size news) (h1 : ∀ u ∈ news, u.oneCell' = true)
    (h63 : n + m ≤ maxLen) (hbytes : (n + m) * bytes ≤ 140737488355328)
    (h : ∀ A' c' w', w'.ownsRow base e size (.slice A' (n + m) c') (n + m) (xs ++ news) → Below base w0 w' → w.grownBy w' v.ownBlock → n + m ≤ c' → c' ≤ maxLen → K (a.put o.dst (.slice A' (n + m) c')) w') : o.wp P a w K Q := by
  obtain ⟨A', c', w', hrun, h2, h3, h4, h5⟩ := run_app (P := P) w base t o.type e i z size bytes ht hi hz hsize hby hzs hsz v n xs hown B A m c news hr h1 h63 hbytes hbase
  unfold Oper.wp execOp
  simp only [ho, resolve, invoke, builtin, Sem.run_bind, Sem.run_pure, Result.andThen_ok, List.map_toArray, List.map_cons, List.map_nil, hs, hx, hrun]
  exact h A' c' w' h2 (below_own hb hown h3 hbase) h3 h4 h5

theorem wpList_app {P : Program} {w : World} {ops : Array Oper} {rest : List Oper} {o : Oper} {a : Act} {Q : Exit → Act → World → Prop} (hgd : o.guard = none) (s x : Operand) (t : TypeId)
    (ho : o.op = .call { callee := .builtin .append, args := #[s, x], argTypes := #[t, t] })
    (base : Nat) (e : TypeId) (i : TypeInfo) (z : Value) (size bytes : Nat) (ht : P.underlying t = some (.slice e)) (hi : P.info? e = some i) (hz : i.zero = some z)
    (hsize : i.size = size) (hby : i.bytes = bytes) (hzs : z.cells.size = size) (hsz : 0 < size) (w0 : World) (hb : Below base w0 w) (hbase : base ≤ w.heap.size) (v : Value) (n : Nat) (xs : List Value) (hs : a.eval s = v) (hown : w.ownsRow base e size v n xs)
    (B : Nat) (A : Option Addr) (m c : Nat) (news : List Value) (hx : a.eval x = .slice A m c) (hr : Row B w A m size news) (h1 : ∀ u ∈ news, u.oneCell' = true)
    (N : Nat) (X : List Value) (hN : n + m = N) (hX : xs ++ news = X) (h63 : N ≤ maxLen) (hbytes : N * bytes ≤ 140737488355328)
    (h : ∀ A' c' w', w'.ownsRow base e size (.slice A' N c') N X → Below base w0 w' → w.grownBy w' v.ownBlock → N ≤ c' → c' ≤ maxLen → wpList P ops Q rest (a.put o.dst (.slice A' N c')) w') : wpList P ops Q (o :: rest) a w := by
  subst hN
  subst hX
  exact wpList_plain hgd fun _ hK => wp_app w s x t ho base e i z size bytes ht hi hz hsize hby hzs hsz w0 hb hbase v n xs hs hown B A m c news hx hr h1 h63 hbytes fun A' c' w' h2 h3 h4 h5 h6 => hK _ _ (h A' c' w' h2 h3 h4 h5 h6)

/-- The same onto the nil slice. -/
theorem wpList_app0 {P : Program} {w : World} {ops : Array Oper} {rest : List Oper} {o : Oper} {a : Act} {Q : Exit → Act → World → Prop} (hgd : o.guard = none) (s x : Operand) (t : TypeId)
    (ho : o.op = .call { callee := .builtin .append, args := #[s, x], argTypes := #[t, t] })
    (base : Nat) (e : TypeId) (i : TypeInfo) (z : Value) (size bytes : Nat) (ht : P.underlying t = some (.slice e)) (hi : P.info? e = some i) (hz : i.zero = some z)
    (hsize : i.size = size) (hby : i.bytes = bytes) (hzs : z.cells.size = size) (hsz : 0 < size) (w0 : World) (hb : Below base w0 w) (hbase : base ≤ w.heap.size) (hs : a.eval s = .slice none 0 0)
    (B : Nat) (A : Option Addr) (m c : Nat) (news : List Value) (hx : a.eval x = .slice A m c) (hr : Row B w A m size news) (h1 : ∀ u ∈ news, u.oneCell' = true)
    (h63 : m ≤ maxLen) (hbytes : m * bytes ≤ 140737488355328)
    (h : ∀ A' c' w', w'.ownsRow base e size (.slice A' m c') m news → Below base w0 w' → w.grownBy w' none → m ≤ c' → c' ≤ maxLen → wpList P ops Q rest (a.put o.dst (.slice A' m c')) w') : wpList P ops Q (o :: rest) a w :=
  wpList_app hgd s x t ho base e i z size bytes ht hi hz hsize hby hzs hsz w0 hb hbase (.slice none 0 0) 0 [] hs (World.ownsRow_nil _ _ _ _) B A m c news hx hr h1 m news (Nat.zero_add m) (List.nil_append news) h63 hbytes
    (by simpa [Value.ownBlock] using h)

/-- make([]T, n) of elements of one cell. -/
theorem make1 {P : Program} (t e : TypeId) (i : TypeInfo) (z : Value) (ht : P.underlying t = some (.slice e)) (hi : P.info? e = some i) (hz : i.zero = some z) (h1 : i.size = 1) (hzc : z.cells = #[z]) (n : Nat) (hb : i.bytes * n ≤ 281474976710656) (hn : n ≤ 9223372036854775807) :
    ∃ cs : Array Value, cs.toList = List.replicate n z ∧ ∀ W : World, (Instr.makeSlice t (.int .i64 (n : Int)) (.int .i64 (n : Int))).run P W = .ok (.slice (some ⟨W.heap.size, 0, none⟩) n n) (W.alloc (.cells cs e)) := by
  refine ⟨madeCells #[z] n, toList_madeCells_one z n, fun W => ?_⟩
  have hb' : (i.bytes : Int) * (n : Int) ≤ 281474976710656 := by
    have h : ((i.bytes * n : Nat) : Int) ≤ 281474976710656 := by omega
    rwa [Int.natCast_mul] at h
  have hr := run_make (P := P) W t e i z ht hi hz .i64 .i64 n n (by omega) (by omega) hb' (by omega)
  simpa [h1, hzc] using hr

/-- A row that is filled from its head on. -/
theorem fill_set {xs : List Value} {N k : Nat} (hx : xs.length = N) (hk : k < N) (z : Value) : (xs.take k ++ List.replicate (N - k) z).set k (xs[k]'(by omega)) = xs.take (k + 1) ++ List.replicate (N - (k + 1)) z := by
  rw [List.set_append, if_neg (by simp; omega), List.length_take, Nat.min_eq_left (by omega), Nat.sub_self, show N - k = (N - (k + 1)) + 1 from by omega, List.replicate_succ, List.set_cons_zero, List.take_succ_eq_append_getElem (by omega), List.append_assoc]
  rfl

/-- A walk is made to stand: the arm '(at_builtin; refine stop_in ?_)'. -/
def Stop (p : Prop) : Prop := p
theorem stop_in {p : Prop} (h : Stop p) : p := h
theorem stop_out {p : Prop} (h : p) : Stop p := h

/-- Bytes as cells. -/
def bts (l : List UInt8) : List Value := l.map fun c => .int .u8 (c.toNat : Int)
theorem bts_length (l : List UInt8) : (bts l).length = l.length := by simp [bts]
theorem bts_get (l : List UInt8) (k : Nat) : (bts l)[k]? = (l[k]?).map fun c => .int .u8 (c.toNat : Int) := by simp [bts]
theorem bts_append (a b : List UInt8) : bts (a ++ b) = bts a ++ bts b := by simp [bts]
theorem bts_take (l : List UInt8) (k : Nat) : bts (l.take k) = (bts l).take k := by simp [bts]
theorem bts_drop (l : List UInt8) (k : Nat) : bts (l.drop k) = (bts l).drop k := by simp [bts]
theorem bts_one (l : List UInt8) : ∀ u ∈ bts l, u.oneCell' = true := by
  intro u hu
  simp only [bts, List.mem_map] at hu
  obtain ⟨c, _, rfl⟩ := hu
  rfl
theorem Row.bt {l : List UInt8} (h : Row B w A n 1 (bts l)) {k : Nat} (hk : k < n) : ∃ a, ∃ hl : k < l.length, A = some a ∧ a.block < B ∧ w.cell? (a.add k) = some (.int .u8 ((l[k]).toNat : Int)) := by
  obtain ⟨a, v, e, b, hv, hc⟩ := h.at1 hk
  have hl : k < l.length := by have := h.len; rw [bts_length] at this; omega
  rw [bts_get, List.getElem?_eq_getElem hl] at hv
  injection hv with hv
  exact ⟨a, hl, e, b, by rw [hc, ← hv]⟩
theorem Row.btlen {l : List UInt8} (h : Row B w A n 1 (bts l)) : l.length = n := by have := h.len; rw [bts_length] at this; omega

theorem foldl_push (l : List UInt8) : ∀ s : ByteArray, (l.map fun c => (c.toNat : Int)).foldl (fun r n => r.push (UInt8.ofNat n.toNat)) s = ⟨s.data ++ l.toArray⟩ := by
  induction l with
  | nil => intro s; simp
  | cons c l ih =>
    intro s
    rw [List.map_cons, List.foldl_cons, ih]
    congr 1
    apply Array.toList_inj.1
    simp [ByteArray.push]
theorem Row.load {P : Program} {a : Addr} (h : Row B w (some a) n 1 xs) : (loadCells a n).run P w = .ok xs.toArray w := by
  have hl := h.len
  have := run_loadCells_list (P := P) (w := w) a xs h.cells
  rwa [show xs.length = n from by omega] at this
/-- string(b) -/
theorem conv_row {P : Program} {l : List UInt8} (src dst e : TypeId) (hs : P.underlying src = some (.slice e)) (he : P.underlying e = some (.int .u8)) (hd : P.underlying dst = some .string)
    (h : Row B w A n 1 (bts l)) (c : Nat) : (convert src dst (.slice A n c)).run P w = .ok (.string ⟨l.toArray⟩) w := by
  rw [run_convert_bytes_string w src dst e A n c hs he hd]
  have hl := h.btlen
  rcases A with _ | a
  · have hn : n = 0 := by
      rcases Nat.eq_zero_or_pos n with h0 | h0
      · exact h0
      · obtain ⟨_, _, he, _⟩ := h.bt h0
        cases he
    subst hn
    obtain rfl := List.eq_nil_of_length_eq_zero hl
    rfl
  · rw [run_bytesToString w a n c (l.map fun c => (c.toNat : Int)) (by rw [h.load]; simp [bts, Function.comp_def]), foldl_push]
    simp

end Go.Proofs.YthepokgkfaocmaaGreatDoor

/-
  The plain law of the sums: the register of a cyclic sum as a function on 32 bits, and of a hash on 64 bits. No program in sight.
-/
namespace Go.Proofs.YthepokgkfaocmaaGreatDoor

namespace Crc
def poly : BitVec 32 := 0x82f63b78#32
def step (n : BitVec 32) : BitVec 32 := (n >>> 1) ^^^ (poly &&& -(n &&& 1#32))
def steps : Nat → BitVec 32 → BitVec 32
  | 0, n => n
  | k + 1, n => steps k (step n)
def byte (n : BitVec 32) (c : UInt8) : BitVec 32 := steps 8 (n ^^^ BitVec.ofNat 32 c.toNat)
def add (n : BitVec 32) : List UInt8 → BitVec 32
  | [] => n
  | c :: l => add (byte n c) l
def ones : BitVec 32 := 0xffffffff#32
def sum (l : List UInt8) : BitVec 32 := ~~~ add ones l
theorem add_append (n : BitVec 32) (a b : List UInt8) : add n (a ++ b) = add (add n a) b := by
  induction a generalizing n with
  | nil => rfl
  | cons c l ih => exact ih (byte n c)
theorem steps_succ' (k : Nat) (n : BitVec 32) : steps (k + 1) n = step (steps k n) := by
  induction k generalizing n with
  | zero => rfl
  | succ k ih => exact ih (step n)
theorem steps_add (j k : Nat) (n : BitVec 32) : steps (j + k) n = steps k (steps j n) := by
  induction j generalizing n with
  | zero => simp [steps]
  | succ j ih => rw [show j + 1 + k = (j + k) + 1 from by omega]; exact ih (step n)
/-- The four bytes of a number, the least first. -/
def four (n : BitVec 32) : List UInt8 := [UInt8.ofNat n.toNat, UInt8.ofNat (n.toNat / 256), UInt8.ofNat (n.toNat / 65536), UInt8.ofNat (n.toNat / 16777216)]
def sealed (l : List UInt8) : List UInt8 := l ++ four (sum l)
def opened (l : List UInt8) : Option (List UInt8) := if l.length < 4 then none else if sealed (l.take (l.length - 4)) = l then some (l.take (l.length - 4)) else none
end Crc
namespace Fnv
def basis : BitVec 64 := 14695981039346656037#64
def prime : BitVec 64 := 1099511628211#64
def byte (h : BitVec 64) (c : UInt8) : BitVec 64 := (h ^^^ BitVec.ofNat 64 c.toNat) * prime
def go (h : BitVec 64) : List UInt8 → BitVec 64
  | [] => h
  | c :: l => go (byte h c) l
def hash (l : List UInt8) : BitVec 64 := go basis l
theorem go_append (h : BitVec 64) (a b : List UInt8) : go h (a ++ b) = go (go h a) b := by
  induction a generalizing h with
  | nil => rfl
  | cons c l ih => exact ih (byte h c)
theorem go_snoc (h : BitVec 64) (l : List UInt8) (k : Nat) (hl : k < l.length) : go h (l.take (k + 1)) = byte (go h (l.take k)) l[k] := by
  rw [List.take_succ_eq_append_getElem hl, go_append]
  rfl
/-- The eight bytes of a number, the greatest first. -/
def eight (n : BitVec 64) : List UInt8 := [56, 48, 40, 32, 24, 16, 8, 0].map fun k => UInt8.ofNat (n.toNat / 2 ^ k)
def mix (a b : BitVec 64) : BitVec 64 := hash (eight a ++ eight b)
end Fnv
end Go.Proofs.YthepokgkfaocmaaGreatDoor

/-
  Bit operations on unsigned numbers of 32 and 64 bits, said of bit vectors. Plain arithmetic; no program.
-/
namespace Go.Proofs.YthepokgkfaocmaaGreatDoor
open Go

theorem ofInt_toNat (k : Nat) (x : BitVec k) : BitVec.ofInt k (x.toNat : Int) = x := by
  apply BitVec.eq_of_toNat_eq
  simp
theorem bits32_and (x y : BitVec 32) : bits .and .u32 (x.toNat : Int) (y.toNat : Int) = ((x &&& y).toNat : Int) := by
  show IntKind.u32.wrap ((BitVec.ofInt 32 (x.toNat : Int) &&& BitVec.ofInt 32 (y.toNat : Int)).toNat : Int) = _
  rw [ofInt_toNat, ofInt_toNat, IntKind.wrap_u32']
  omega
theorem bits32_or (x y : BitVec 32) : bits .or .u32 (x.toNat : Int) (y.toNat : Int) = ((x ||| y).toNat : Int) := by
  show IntKind.u32.wrap ((BitVec.ofInt 32 (x.toNat : Int) ||| BitVec.ofInt 32 (y.toNat : Int)).toNat : Int) = _
  rw [ofInt_toNat, ofInt_toNat, IntKind.wrap_u32']
  omega
theorem bits32_xor (x y : BitVec 32) : bits .xor .u32 (x.toNat : Int) (y.toNat : Int) = ((x ^^^ y).toNat : Int) := by
  show IntKind.u32.wrap ((BitVec.ofInt 32 (x.toNat : Int) ^^^ BitVec.ofInt 32 (y.toNat : Int)).toNat : Int) = _
  rw [ofInt_toNat, ofInt_toNat, IntKind.wrap_u32']
  omega
theorem bits64_and (x y : BitVec 64) : bits .and .u64 (x.toNat : Int) (y.toNat : Int) = ((x &&& y).toNat : Int) := by
  show IntKind.u64.wrap ((BitVec.ofInt 64 (x.toNat : Int) &&& BitVec.ofInt 64 (y.toNat : Int)).toNat : Int) = _
  rw [ofInt_toNat, ofInt_toNat, IntKind.wrap_u64]
  omega
theorem bits64_or (x y : BitVec 64) : bits .or .u64 (x.toNat : Int) (y.toNat : Int) = ((x ||| y).toNat : Int) := by
  show IntKind.u64.wrap ((BitVec.ofInt 64 (x.toNat : Int) ||| BitVec.ofInt 64 (y.toNat : Int)).toNat : Int) = _
  rw [ofInt_toNat, ofInt_toNat, IntKind.wrap_u64]
  omega
theorem bits64_xor (x y : BitVec 64) : bits .xor .u64 (x.toNat : Int) (y.toNat : Int) = ((x ^^^ y).toNat : Int) := by
  show IntKind.u64.wrap ((BitVec.ofInt 64 (x.toNat : Int) ^^^ BitVec.ofInt 64 (y.toNat : Int)).toNat : Int) = _
  rw [ofInt_toNat, ofInt_toNat, IntKind.wrap_u64]
  omega
theorem and_mask (a : Int) (k : Nat) (hk : k < 63) : ∃ m : Nat, bits .and .i64 a (2 ^ k - 1 : Nat) = (m : Int) ∧ m < 2 ^ k := by
  have h2 : 2 ^ k < 2 ^ 63 := Nat.pow_lt_pow_right (by omega) hk
  have hpos : 0 < 2 ^ k := Nat.pow_pos (by omega)
  have e : bits .and .i64 a ((2 ^ k - 1 : Nat) : Int) = IntKind.i64.wrap ((BitVec.ofInt 64 a &&& BitVec.ofInt 64 ((2 ^ k - 1 : Nat) : Int)).toNat : Int) := rfl
  have hm : (BitVec.ofInt 64 ((2 ^ k - 1 : Nat) : Int)).toNat = 2 ^ k - 1 := by
    rw [BitVec.ofInt_natCast, BitVec.toNat_ofNat]
    exact Nat.mod_eq_of_lt (by omega)
  have hle : (BitVec.ofInt 64 a &&& BitVec.ofInt 64 ((2 ^ k - 1 : Nat) : Int)).toNat ≤ 2 ^ k - 1 := by
    rw [BitVec.toNat_and, hm]
    exact Nat.and_le_right
  refine ⟨(BitVec.ofInt 64 a &&& BitVec.ofInt 64 ((2 ^ k - 1 : Nat) : Int)).toNat, ?_, by omega⟩
  rw [e, IntKind.wrap_i64]
  omega
theorem and_mask64 (x : BitVec 64) (k : Nat) (hk : k < 64) : ∃ m : Nat, bits .and .u64 (x.toNat : Int) ((2 ^ k - 1 : Nat) : Int) = (m : Int) ∧ m < 2 ^ k ∧ m = x.toNat % 2 ^ k := by
  have h2 : 2 ^ k < 2 ^ 64 := Nat.pow_lt_pow_right (by omega) hk
  have hpos : 0 < 2 ^ k := Nat.pow_pos (by omega)
  have hm : ((2 ^ k - 1 : Nat) : Int) = ((BitVec.ofNat 64 (2 ^ k - 1)).toNat : Int) := by
    rw [BitVec.toNat_ofNat, Nat.mod_eq_of_lt (by omega)]
  refine ⟨x.toNat % 2 ^ k, ?_, Nat.mod_lt _ hpos, rfl⟩
  rw [hm, bits64_and, BitVec.toNat_and, BitVec.toNat_ofNat, Nat.mod_eq_of_lt (by omega), Nat.and_two_pow_sub_one_eq_mod]
theorem bits8_xor (x y : UInt8) : bits .xor .u8 (x.toNat : Int) (y.toNat : Int) = ((x ^^^ y).toNat : Int) := by
  show IntKind.u8.wrap ((BitVec.ofInt 8 (x.toNat : Int) ^^^ BitVec.ofInt 8 (y.toNat : Int)).toNat : Int) = _
  have hx : BitVec.ofInt 8 (x.toNat : Int) = x.toBitVec := ofInt_toNat 8 x.toBitVec
  have hy : BitVec.ofInt 8 (y.toNat : Int) = y.toBitVec := ofInt_toNat 8 y.toBitVec
  rw [hx, hy, IntKind.wrap_u8]
  have e : (x.toBitVec ^^^ y.toBitVec).toNat = (x ^^^ y).toNat := rfl
  rw [e]
  have := (x ^^^ y).toNat_lt
  omega
theorem byte32 (c : UInt8) : ((c.toNat : Int) % 4294967296) = ((BitVec.ofNat 32 c.toNat).toNat : Int) := by
  have := c.toNat_lt
  simp
  omega
theorem byte64 (c : UInt8) : (c.toNat : Int) = ((BitVec.ofNat 64 c.toNat).toNat : Int) := by
  have := c.toNat_lt
  simp
theorem int_eq {k : IntKind} {a b : Int} (h : a = b) : Value.int k a = Value.int k b := by rw [h]
theorem ret_eq {v v' : Value} (h : v = v') : Ending.returned v = Ending.returned v' := by rw [h]
end Go.Proofs.YthepokgkfaocmaaGreatDoor

/-
  The walks of the sums: sum.add, sum.Parts, sum.Of, sum.Hash: each computes what the plain law says, and changes nothing that was there.
-/
namespace Go.Proofs.YthepokgkfaocmaaGreatDoor
open Go.RowKit

theorem crc_step_bits (x : BitVec 32) : bits .xor .u32 ((x.toNat : Int) / 2) (bits .and .u32 2197175160 (-bits .and .u32 (x.toNat : Int) 1 % 4294967296)) = ((Crc.step x).toNat : Int) := by
  have h1 : bits .and .u32 (x.toNat : Int) 1 = ((x &&& 1#32).toNat : Int) := bits32_and x 1#32
  have h2 : -((x &&& 1#32).toNat : Int) % 4294967296 = ((-(x &&& 1#32)).toNat : Int) := by
    rw [BitVec.toNat_neg]
    have := (x &&& 1#32).isLt
    omega
  have h3 : ((x.toNat : Int) / (2 : Int)) = ((x >>> 1).toNat : Int) := by
    rw [BitVec.toNat_ushiftRight, Nat.shiftRight_eq_div_pow]
    omega
  have h4 : bits .and .u32 2197175160 ((-(x &&& 1#32)).toNat : Int) = ((Crc.poly &&& -(x &&& 1#32)).toNat : Int) := bits32_and Crc.poly _
  rw [h1, h2, h3, h4, bits32_xor]
  rfl

theorem crc_not_bits (x : BitVec 32) : bits .xor .u32 IntKind.u32.max (x.toNat : Int) = ((~~~x).toNat : Int) := by
  have h : bits .xor .u32 IntKind.u32.max (x.toNat : Int) = ((BitVec.allOnes 32 ^^^ x).toNat : Int) := bits32_xor (BitVec.allOnes 32) x
  rw [h, BitVec.allOnes_xor]

theorem crc_add_snoc (m : BitVec 32) (l : List UInt8) (k : Nat) (hl : k < l.length) : Crc.add m (l.take (k + 1)) = Crc.byte (Crc.add m (l.take k)) l[k] := by
  rw [List.take_succ_eq_append_getElem hl, Crc.add_append]
  rfl

set_option maxHeartbeats 400000 in
theorem add_any (m : BitVec 32) (A : Option Addr) (n c : Nat) (l : List UInt8) (w : World) (hn : n ≤ 9223372036854775807) (hr : Row w.heap.size w A n 1 (bts l)) :
    Calls Tryz.prog 164 #[.int .u32 (m.toNat : Int), .slice A n c] w fun e w' => e = .returned (.int .u32 ((Crc.add m l).toNat : Int)) ∧ w = w' := by
  go_enter Tryz.func164, Tryz.ntmps164
  go_wp2
  go_loop [0, 9, 6] (fun x i _ => ∃ k : Nat, k ≤ n ∧ i = .int .i64 k ∧ x = .int .u32 ((Crc.add m (l.take k)).toNat : Int)) (fun _ i _ => n - (intOf i).toNat)
  case atStart => exact ⟨0, Nat.zero_le _, rfl, rfl⟩
  case round =>
    obtain ⟨k, hk, rfl, rfl⟩ := hrel
    by_cases hlt : k < n
    · obtain ⟨a, hl, rfl, _, hc⟩ := hr.bt hlt
      go_wp2
      go_loop [0, 17] (fun x i => ∃ j : Nat, j ≤ 8 ∧ i = .int .i64 j ∧ x = .int .u32 ((Crc.steps j (Crc.add m (l.take k) ^^^ BitVec.ofNat 32 l[k].toNat)).toNat : Int)) (fun _ i => 8 - (intOf i).toNat)
      case atStart => exact ⟨0, Nat.zero_le _, rfl, int_eq (by rw [byte32, bits32_xor]; rfl)⟩
      case round =>
        obtain ⟨j, hj, rfl, rfl⟩ := hrel
        generalize hx : Crc.steps j (Crc.add m (l.take k) ^^^ BitVec.ofNat 32 l[k].toNat) = x
        have HX := Lib.hid hx
        clear hx
        have hx0 : 0 ≤ (x.toNat : Int) := by omega
        have hx1 : (x.toNat : Int) ≤ 4294967295 := by have := x.isLt; omega
        by_cases hj8 : j < 8
        · go_wp2
          go_round
          case rel => exact ⟨j + 1, by omega, by go_num, int_eq (by rw [crc_step_bits, Crc.steps_succ', HX.out])⟩
          case measure => simp [intOf]; omega
        · go_wp2
          go_round
          case rel => exact ⟨k + 1, by omega, by go_num, int_eq (by
            obtain rfl : j = 8 := by omega
            rw [crc_add_snoc m l k hl, Crc.byte, HX.out])⟩
          case measure => simp [intOf]; omega
    · go_wp2
      go_ret
      exact ⟨ret_eq (int_eq (by rw [List.take_of_length_le (by have := hr.btlen; omega)])), rfl⟩

/-- A slice of slices of bytes. -/
def Rows2 (B : Nat) (w : World) (P : Option Addr) (n : Nat) (ls : List (List UInt8)) : Prop :=
  ∃ vs, Row B w P n 1 vs ∧ ls.length = n ∧ ∀ i (h : i < ls.length), ∃ A k c, vs[i]? = some (.slice A k c) ∧ k ≤ c ∧ c ≤ maxLen ∧ Row B w A k 1 (bts ls[i])
theorem Rows2.at_ {B : Nat} {w : World} {P : Option Addr} {n : Nat} {ls : List (List UInt8)} (h : Rows2 B w P n ls) {i : Nat} (hi : i < n) :
    ∃ a A k c, ∃ hl : i < ls.length, P = some a ∧ a.block < B ∧ w.cell? (a.add i) = some (.slice A k c) ∧ k ≤ c ∧ c ≤ maxLen ∧ Row B w A k 1 (bts ls[i]) := by
  obtain ⟨vs, hr, hl, hf⟩ := h
  obtain ⟨a, v, e, b, hv, hc⟩ := hr.at1 hi
  obtain ⟨A, k, c, h1, h2, h3, h4⟩ := hf i (by omega)
  rw [h1] at hv
  injection hv with hv
  exact ⟨a, A, k, c, by omega, e, b, by rw [hc, ← hv], h2, h3, h4⟩
theorem Rows2.below {B : Nat} {w w' : World} {P : Option Addr} {n : Nat} {ls : List (List UInt8)} (h : Rows2 B w P n ls) (hb : Below B w w') : Rows2 B w' P n ls := by
  obtain ⟨vs, hr, hl, hf⟩ := h
  exact ⟨vs, hr.below hb, hl, fun i hi => let ⟨A, k, c, h1, h2, h3, h4⟩ := hf i hi; ⟨A, k, c, h1, h2, h3, h4.below hb⟩⟩

def addAll (m : BitVec 32) : List (List UInt8) → BitVec 32
  | [] => m
  | l :: ls => addAll (Crc.add m l) ls
theorem addAll_append (m : BitVec 32) (a b : List (List UInt8)) : addAll m (a ++ b) = addAll (addAll m a) b := by
  induction a generalizing m with
  | nil => rfl
  | cons x l ih => exact ih _
theorem addAll_snoc (m : BitVec 32) (ls : List (List UInt8)) (k : Nat) (hl : k < ls.length) : addAll m (ls.take (k + 1)) = Crc.add (addAll m (ls.take k)) ls[k] := by
  rw [List.take_succ_eq_append_getElem hl, addAll_append]
  rfl
theorem addAll_flat (m : BitVec 32) (ls : List (List UInt8)) : addAll m ls = Crc.add m ls.flatten := by
  induction ls generalizing m with
  | nil => rfl
  | cons x l ih => rw [List.flatten_cons, Crc.add_append]; exact ih _

set_option maxHeartbeats 400000 in
theorem parts_any (P : Option Addr) (n c : Nat) (ls : List (List UInt8)) (w : World) (hn : n ≤ 9223372036854775807) (hr : Rows2 w.heap.size w P n ls) :
    Calls Tryz.prog 147 #[.slice P n c] w fun e w' => e = .returned (.int .u32 ((Crc.sum ls.flatten).toNat : Int)) ∧ w = w' := by
  go_enter Tryz.func147, Tryz.ntmps147
  go_wp2
  go_loop [3, 8, 5] (fun x i _ => ∃ k : Nat, k ≤ n ∧ i = .int .i64 k ∧ x = .int .u32 ((addAll Crc.ones (ls.take k)).toNat : Int)) (fun _ i _ => n - (intOf i).toNat)
  case atStart => exact ⟨0, Nat.zero_le _, rfl, rfl⟩
  case round =>
    obtain ⟨k, hk, rfl, rfl⟩ := hrel
    by_cases hlt : k < n
    · obtain ⟨a, A, k', c', hl, rfl, _, hc, hkc, hcm, hr2⟩ := hr.at_ hlt
      unfold maxLen at hcm
      go_wp2_with (go_at_call 164; refine (add_any _ _ _ _ _ _ (by omega) hr2).mono ?_; rintro e w' ⟨rfl, rfl⟩)
      go_round
      case rel => exact ⟨k + 1, by omega, by go_num, int_eq (by rw [addAll_snoc _ _ _ hl])⟩
      case measure => simp [intOf]; omega
    · have hx0 : 0 ≤ ((addAll Crc.ones (ls.take k)).toNat : Int) := by omega
      have hx1 : ((addAll Crc.ones (ls.take k)).toNat : Int) ≤ 4294967295 := by have := (addAll Crc.ones (ls.take k)).isLt; omega
      go_wp2
      go_ret
      have hlen : ls.length = n := by obtain ⟨_, _, h, _⟩ := hr; exact h
      refine ⟨ret_eq (int_eq ?_), rfl⟩
      rw [List.take_of_length_le (by omega), addAll_flat, crc_not_bits]
      rfl

theorem row_box (w : World) (e : TypeId) (A : Option Addr) (n c : Nat) (l : List UInt8) (hr : Row w.heap.size w A n 1 (bts l)) (hc : n ≤ c) (hm : c ≤ maxLen) :
    Rows2 (w.alloc (.cells #[.slice A n c] e)).heap.size (w.alloc (.cells #[.slice A n c] e)) (some ⟨w.heap.size, 0, none⟩) 1 [l] := by
  refine ⟨_, (Row.new w #[.slice A n c] e (n := 1) (size := 1) rfl).up (by simp), rfl, fun i hi => ?_⟩
  obtain rfl : i = 0 := by simpa using hi
  exact ⟨A, n, c, rfl, hc, hm, (hr.alloc (Nat.le_refl _) _).up (by simp)⟩

set_option maxHeartbeats 400000 in
theorem of_any (A : Option Addr) (n c : Nat) (l : List UInt8) (w : World) (hn : n ≤ c) (hm : c ≤ maxLen) (hr : Row w.heap.size w A n 1 (bts l)) :
    Calls Tryz.prog 120 #[.slice A n c] w fun e w' => e = .returned (.int .u32 ((Crc.sum l).toNat : Int)) ∧ Below w.heap.size w w' := by
  have hb := row_box w 32 A n c l hr hn hm
  go_enter Tryz.func120, Tryz.ntmps120
  go_wp2_with (go_at_call 147; refine (parts_any _ _ _ _ _ (by omega) hb).mono ?_; rintro e w' ⟨rfl, rfl⟩)
  go_ret
  refine ⟨ret_eq (int_eq (by simp)), (Below.refl _ _).alloc (Nat.le_refl _) _⟩
end Go.Proofs.YthepokgkfaocmaaGreatDoor

/-
  The walks of the sums, behind: sum.Seal: it computes what the plain law says, and changes nothing that was there.
-/
namespace Go.Proofs.YthepokgkfaocmaaGreatDoor
open Go.RowKit

theorem info_u8 : (Tryz.prog.info? 5).map (fun i => (i.zero, i.size, i.bytes)) = some (some (.int .u8 0), 1, 1) := by kernel_rfl

theorem four_cells (x : BitVec 32) : bts (Crc.four x) = [.int .u8 ((x.toNat : Int) % 256), .int .u8 ((x.toNat : Int) / 256 % 256), .int .u8 ((x.toNat : Int) / 65536 % 256), .int .u8 ((x.toNat : Int) / 16777216)] := by
  have := x.isLt
  have h4 : x.toNat / 16777216 % 256 = x.toNat / 16777216 := Nat.mod_eq_of_lt (by omega)
  simp [bts, Crc.four, h4]

set_option maxHeartbeats 400000 in
theorem seal_any (A : Option Addr) (n c : Nat) (l : List UInt8) (w : World) (hn : n ≤ c) (hm : c ≤ maxLen) (hbig : n ≤ 1073741824) (hr : Row w.heap.size w A n 1 (bts l)) :
    Calls Tryz.prog 97 #[.slice A n c] w fun e w' => ∃ A' c', e = .returned (.slice A' (n + 4) c') ∧ w'.ownsRow w.heap.size 5 1 (.slice A' (n + 4) c') (n + 4) (bts (Crc.sealed l)) ∧ n + 4 ≤ c' ∧ c' ≤ maxLen ∧ Below w.heap.size w w' := by
  obtain ⟨i0, hi0, hz0, hz1, hz2⟩ := info_parts info_u8
  go_enter Tryz.func97, Tryz.ntmps97
  go_wp2_with fail
  refine (of_any A n c l w hn hm hr).mono ?_
  rintro e w1 ⟨rfl, hb1⟩
  generalize hx : Crc.sum l = x
  have HX := Lib.hid hx
  clear hx
  have hx0 : 0 ≤ (x.toNat : Int) := by omega
  have hx1 : (x.toNat : Int) ≤ 4294967295 := by have := x.isLt; omega
  go_wp2_with (at_builtin; refine stop_in ?_)
  refine stop_out (wpList_app0 rfl (.const (.slice none 0 0)) (.tmp 6) _ rfl w.heap.size 5 i0 _ 1 1 Tryz.underlying32 hi0 hz0 hz1 hz2 rfl (by omega) w hb1 hb1.size rfl w.heap.size A n c (bts l) rfl (hr.below hb1) (bts_one l) (by unfold maxLen; omega) (by omega) ?_)
  intro A2 c2 w2 hown2 hb2 hg2 hc2 hm2
  go_wp2_with (at_builtin; refine stop_in ?_)
  have hrow : Row (w2.heap.size + 1) (w2.alloc (.cells #[.int .u8 ((x.toNat : Int) % 256), .int .u8 ((x.toNat : Int) / 256 % 256), .int .u8 ((x.toNat : Int) / 65536 % 256), .int .u8 ((x.toNat : Int) / 16777216)] 5)) (some ⟨w2.heap.size, 0, none⟩) 4 1 (bts (Crc.four x)) := by
    rw [four_cells]
    exact Row.new w2 _ _ rfl
  refine stop_out (wpList_app rfl (.tmp 7) (.tmp 19) _ rfl w.heap.size 5 i0 _ 1 1 Tryz.underlying32 hi0 hz0 hz1 hz2 rfl (by omega) w (hb2.alloc hb2.size _) (by have := hb2.size; simp; omega) (.slice A2 n c2) n (bts l) rfl (hown2.alloc _) (w2.heap.size + 1) _ 4 4 (bts (Crc.four x)) rfl hrow (bts_one _) (n + 4) (bts (l ++ Crc.four x)) rfl (bts_append _ _).symm (by unfold maxLen; omega) (by omega) ?_)
  intro A3 c3 w3 hown3 hb3 _ hc3 hm3
  go_wp2
  go_ret
  exact ⟨A3, c3, rfl, by rw [Crc.sealed, HX.out]; exact hown3, hc3, hm3, hb3⟩
end Go.Proofs.YthepokgkfaocmaaGreatDoor

/-
  Numbers as bytes, in plain Lean: groups of seven bits; a list of numbers; what is put is taken.
-/
namespace Go.Proofs.YthepokgkfaocmaaGreatDoor

namespace Pn
/-- A number's bytes, of at most k + 1 groups. -/
def putF : Nat → Nat → List UInt8
  | 0, n => [UInt8.ofNat n]
  | k + 1, n => if n < 128 then [UInt8.ofNat n] else UInt8.ofNat (n % 128 + 128) :: putF k (n / 128)
/-- A number's bytes. -/
def put (n : Nat) : List UInt8 := putF 9 n
/-- The number that bytes begin with, i of them taken: the number, how many bytes, the error. -/
def takeF : Nat → Nat → List UInt8 → Nat × Nat × Nat
  | _, _, [] => (0, 0, 4)
  | i, acc, c :: r => if (i = 9 ∧ 1 < c.toNat) ∨ (0 < i ∧ c.toNat = 0) then (0, 0, 3) else if c.toNat < 128 then (acc + c.toNat * 2 ^ (7 * i), i + 1, 0) else takeF (i + 1) (acc + (c.toNat - 128) * 2 ^ (7 * i)) r
def take (l : List UInt8) : Nat × Nat × Nat := takeF 0 0 l
/-- So many numbers, from a place on. -/
def unlistF : Nat → Nat → List UInt8 → List Nat → List Nat × Nat × Nat
  | 0, at_, _, out => (out, at_, 0)
  | k + 1, at_, l, out => match take (l.drop at_) with
    | (x, size, 0) => unlistF k (at_ + size) l (out ++ [x])
    | (_, _, e) => ([], 0, e)
def unlist (l : List UInt8) (most : Nat) : List Nat × Nat × Nat := match take l with
    | (n, at_, 0) => if most < n then ([], 0, 2) else unlistF n at_ l []
    | (_, _, e) => ([], 0, e)
/-- Numbers, with how many ahead. -/
def list (l : List Nat) : List UInt8 := put l.length ++ l.flatMap put

theorem putF_len : ∀ k n, 1 ≤ (putF k n).length ∧ (putF k n).length ≤ k + 1
  | 0, _ => by simp [putF]
  | k + 1, n => by
    have := putF_len k (n / 128)
    unfold putF
    split <;> simp <;> omega
theorem put_len (n : Nat) : 1 ≤ (put n).length ∧ (put n).length ≤ 10 := putF_len 9 n
/-- Once within its room a number's bytes do not hang on how much there is. -/
theorem putF_more : ∀ k n, n < 128 ^ (k + 1) → putF (k + 1) n = putF k n
  | 0, n, h => by
    have h0 : n < 128 := by simpa using h
    simp [putF, h0]
  | k + 1, n, h => by
    have h1 : n / 128 < 128 ^ (k + 1) := by
      rw [Nat.div_lt_iff_lt_mul (by decide)]
      rw [Nat.pow_succ] at h
      exact h
    rw [putF, putF_more k _ h1]
    conv => rhs; rw [putF]

theorem pow7 (i : Nat) : 2 ^ (7 * (i + 1)) = 128 * 2 ^ (7 * i) := by
  rw [show 7 * (i + 1) = 7 * i + 7 from by omega, Nat.pow_add]
  omega
theorem u8_toNat (n : Nat) (h : n < 256) : (UInt8.ofNat n).toNat = n := by
  rw [UInt8.toNat_ofNat']
  omega
theorem takeF_putF : ∀ (k i acc n : Nat) (r : List UInt8), i + k = 9 → (0 < i → 0 < n) → n < 2 ^ (64 - 7 * i) → takeF i acc (putF k n ++ r) = (acc + n * 2 ^ (7 * i), i + (putF k n).length, 0)
  | 0, i, acc, n, r, hi, h0, hn => by
    obtain rfl : i = 9 := by omega
    have h2 : n < 2 := by simpa using hn
    have := h0 (by omega)
    have e : (UInt8.ofNat n).toNat = n := u8_toNat n (by omega)
    simp only [putF, List.cons_append, List.nil_append, takeF, e]
    rw [if_neg (by omega), if_pos (by omega)]
    simp
  | k + 1, i, acc, n, r, hi, h0, hn => by
    unfold putF
    split
    · rename_i hl
      have e : (UInt8.ofNat n).toNat = n := u8_toNat n (by omega)
      simp only [List.cons_append, List.nil_append, takeF, e]
      rw [if_neg (by omega), if_pos (by omega)]
      simp
    · rename_i hl
      have e : (UInt8.ofNat (n % 128 + 128)).toNat = n % 128 + 128 := u8_toNat _ (by omega)
      simp only [List.cons_append, takeF, e]
      rw [if_neg (by omega), if_neg (by omega)]
      have h1 : n / 128 < 2 ^ (64 - 7 * (i + 1)) := by
        rw [Nat.div_lt_iff_lt_mul (by decide)]
        have : 2 ^ (64 - 7 * (i + 1)) * 128 = 2 ^ (64 - 7 * i) := by
          rw [show (128 : Nat) = 2 ^ 7 from rfl, ← Nat.pow_add]
          congr 1
          omega
        omega
      rw [takeF_putF k (i + 1) _ (n / 128) r (by omega) (by omega) h1, pow7]
      congr 1
      · have : n = 128 * (n / 128) + n % 128 := (Nat.div_add_mod n 128).symm
        have e2 : n * 2 ^ (7 * i) = n / 128 * (128 * 2 ^ (7 * i)) + (n % 128) * 2 ^ (7 * i) := by
          conv => lhs; rw [this]
          rw [Nat.add_mul, Nat.mul_comm 128 (n / 128), Nat.mul_assoc]
        rw [e2]
        have e3 : n % 128 + 128 - 128 = n % 128 := by omega
        rw [e3]
        omega
      · simp only [List.length_cons]
        congr 1
        omega
/-- What was put is taken. -/
theorem take_put (n : Nat) (r : List UInt8) (hn : n < 2 ^ 64) : take (put n ++ r) = (n, (put n).length, 0) := by
  have := takeF_putF 9 0 0 n r rfl (by omega) (by simpa using hn)
  simpa [take, put] using this
end Pn
end Go.Proofs.YthepokgkfaocmaaGreatDoor

/-
  Words for memory: what may have changed is a list of blocks ('Chg'), for objects that are changed in place over many calls.
-/
namespace Go.Proofs.YthepokgkfaocmaaGreatDoor
open Go Go.RowKit

/-- From w to w' the heap has grown, and of the old blocks those of F alone may have changed. -/
structure Chg (F : List Nat) (w w' : World) : Prop where
  os : w'.os = w.os
  tape : w'.tape = w.tape
  output : w'.output = w.output
  size : w.heap.size ≤ w'.heap.size
  block : ∀ k, k < w.heap.size → k ∉ F → w'.heap[k]? = w.heap[k]?

variable {F G : List Nat} {w w' w'' : World}
theorem Chg.refl (F : List Nat) (w : World) : Chg F w w := ⟨rfl, rfl, rfl, Nat.le_refl _, fun _ _ _ => rfl⟩
/-- The second step may change what the first may, and what the first has made. -/
theorem Chg.trans (h : Chg F w w') (k : Chg G w' w'') (hG : ∀ g ∈ G, g ∈ F ∨ w.heap.size ≤ g) : Chg F w w'' :=
  ⟨k.os.trans h.os, k.tape.trans h.tape, k.output.trans h.output, Nat.le_trans h.size k.size, fun b hb hF => (k.block b (Nat.lt_of_lt_of_le hb h.size) (fun hg => by
    rcases hG b hg with h1 | h1
    · exact hF h1
    · omega)).trans (h.block b hb hF)⟩
theorem Chg.mono (h : Chg F w w') (hF : ∀ g ∈ F, g ∈ G ∨ w.heap.size ≤ g) : Chg G w w' :=
  ⟨h.os, h.tape, h.output, h.size, fun b hb hG => h.block b hb (fun hf => by
    rcases hF b hf with h1 | h1
    · exact hG h1
    · omega)⟩
theorem Chg.of_below (h : Below w.heap.size w w') (F : List Nat) : Chg F w w' := ⟨h.os, h.tape, h.output, h.size, fun b hb _ => h.block b hb⟩
theorem Chg.below (h : Chg F w w') {B : Nat} (hB : B ≤ w.heap.size) (hF : ∀ g ∈ F, B ≤ g) : Below B w w' := ⟨h.os, h.tape, h.output, h.size, fun b hb => h.block b (Nat.lt_of_lt_of_le hb hB) (fun hf => by have := hF b hf; omega)⟩
theorem Chg.of_grown {g : Option Nat} (h : w.grownBy w' g) (hg : ∀ b, g = some b → b ∈ F) : Chg F w w' := ⟨h.os, h.tape, h.output, h.size, fun b hb hF => h.block b hb (fun e => hF (hg b e.symm))⟩
theorem Chg.drewN (h : Chg F w w') (n : Nat) : Chg F w (w'.drewN n) := ⟨h.os, h.tape, h.output, h.size, h.block⟩
theorem Chg.drew (h : Chg F w w') : Chg F w w'.drew := ⟨h.os, h.tape, h.output, h.size, h.block⟩
theorem Chg.cell (h : Chg F w w') {p : Addr} (hp : p.block < w.heap.size) (hF : p.block ∉ F) : w'.cell? p = w.cell? p := World.cell?_of_block (h.block p.block hp hF)
theorem Chg.row {B n size : Nat} {A : Option Addr} {xs : List Value} (h : Chg F w w') (r : Row B w A n size xs) (hB : B ≤ w.heap.size) (hF : ∀ a, A = some a → a.block ∉ F) : Row B w' A n size xs :=
  ⟨r.len, fun j hj => let ⟨a, e, b, c⟩ := r.cell j hj; ⟨a, e, b, (h.cell (p := a.add j) (by rw [add_block]; omega) (by rw [add_block]; exact hF a e)).trans c⟩⟩
theorem later_ {w X w1 : World} (h : Below w.heap.size w X) (h1 : Below X.heap.size X w1) : Below w.heap.size w w1 := h.trans (h1.mono h.size)
theorem below_drew {B : Nat} {w X : World} (h : Below B w X) : Below B w X.drew := ⟨h.os, h.tape, h.output, h.size, h.block⟩
theorem Chg.alloc (h : Chg F w w') (o : Obj) : Chg F w (w'.alloc o) :=
  h.trans (Chg.of_below ((Below.refl _ _).alloc (Nat.le_refl _) o) []) (fun g hg => by cases hg)
theorem Chg.setCell (h : Chg F w w') {p : Addr} (v : Value) (hp : p.block ∈ F ∨ w.heap.size ≤ p.block) : Chg F w (w'.setCell p v) :=
  ⟨h.os, h.tape, h.output, by simpa using h.size, fun k hk hF => by
    have e : (w'.setCell p v).heap[k]? = w'.heap[k]? := by
      refine Below.heap_setCell w' p v k (fun e => ?_)
      subst e
      rcases hp with hp | hp
      · exact hF hp
      · omega
    rw [e]
    exact h.block k hk hF⟩
theorem Chg.frozen (h : Chg F w w') {p : Addr} (hp : p.block < w.heap.size) (hF : p.block ∉ F) : w'.frozen? p = w.frozen? p := World.frozen?_of_block (h.block p.block hp hF)
end Go.Proofs.YthepokgkfaocmaaGreatDoor

/-
  The walk of num.Put: a number's bytes behind a text, in memory of the call's own.
-/
namespace Go.Proofs.YthepokgkfaocmaaGreatDoor
open Go.RowKit

theorem or_top (x : Nat) : bits .or .u8 ((x : Int) % 256) 128 = ((UInt8.ofNat (x % 128 + 128)).toNat : Int) := by
  have key : ∀ y : Fin 256, bits .or .u8 ((y.val : Nat) : Int) 128 = ((y.val % 128 + 128 : Nat) : Int) := by decide +kernel
  have h := key ⟨x % 256, Nat.mod_lt _ (by decide)⟩
  simp only at h
  rw [show ((x : Int) % 256) = ((x % 256 : Nat) : Int) from by omega, h, UInt8.toNat_ofNat']
  omega
theorem byte_of_nat (x : Nat) : (x : Int) % 256 = ((UInt8.ofNat x).toNat : Int) := by
  rw [UInt8.toNat_ofNat']
  omega
theorem bts_snoc (l : List UInt8) (c : UInt8) : bts (l ++ [c]) = bts l ++ [.int .u8 (c.toNat : Int)] := by simp [bts]
/-- A box of one byte, as an append reads it. -/
theorem box_row (w : World) (e : TypeId) (c : UInt8) : Row (w.heap.size + 1) (w.alloc (.cells #[.int .u8 (c.toNat : Int)] e)) (some ⟨w.heap.size, 0, none⟩) 1 1 (bts [c]) := by
  have := Row.new w #[.int .u8 (c.toNat : Int)] e (n := 1) (size := 1) rfl
  simpa [bts] using this

set_option maxRecDepth 100000 in
set_option maxHeartbeats 1000000 in
theorem put_any (A : Option Addr) (N c : Nat) (l : List UInt8) (n : Nat) (hn : n < 18446744073709551616) (w : World) (hN : N ≤ 1073741824) (hr : Row w.heap.size w A N 1 (bts l)) :
    Calls Tryz.prog 69 #[.slice A N c, .int .u64 (n : Int)] w fun e w' => ∃ A' c', e = .returned (.slice A' (N + (Pn.put n).length) c') ∧
      w'.ownsRow w.heap.size 5 1 (.slice A' (N + (Pn.put n).length) c') (N + (Pn.put n).length) (bts (l ++ Pn.put n)) ∧ N + (Pn.put n).length ≤ c' ∧ c' ≤ maxLen ∧ Below w.heap.size w w' := by
  obtain ⟨i0, hi0, hz0, hz1, hz2⟩ := info_parts info_u8
  go_enter Tryz.func69, Tryz.ntmps69
  go_wp2_with (at_builtin; refine stop_in ?_)
  refine stop_out (wpList_app0 rfl (.const (.slice none 0 0)) (.tmp 6) _ rfl w.heap.size 5 i0 _ 1 1 Tryz.underlying32 hi0 hz0 hz1 hz2 rfl (by omega) w (Below.refl _ _) (Nat.le_refl _) rfl w.heap.size A N c (bts l) rfl hr (bts_one l) (by unfold maxLen; omega) (by omega) ?_)
  intro A2 c2 w2 hown2 hb2 hg2 hc2 hm2
  go_wp2
  go_loopw [5, 1] (fun o m wr => ∃ (k n' : Nat) (pre : List UInt8) (A' : Option Addr) (c' : Nat), o = .slice A' (N + k) c' ∧ m = .int .u64 (n' : Int) ∧ wr.ownsRow w.heap.size 5 1 (.slice A' (N + k) c') (N + k) (bts (l ++ pre)) ∧ N + k ≤ c' ∧ c' ≤ maxLen ∧
    pre ++ Pn.putF (9 - k) n' = Pn.put n ∧ k ≤ 9 ∧ n' < 2 ^ (64 - 7 * k) ∧ Below w.heap.size w wr) (fun _ m _ => (intOf m).toNat)
  case atStart => exact ⟨0, n, [], A2, c2, rfl, rfl, by simpa using hown2, hc2, hm2, rfl, by omega, by simpa using hn, hb2⟩
  case round =>
    obtain ⟨k, n', pre, A', c', rfl, rfl, hown, hc', hm', hp, hk, hl, hb⟩ := hrel
    have hpl : pre.length = k := by
      have h1 := hown.1
      rw [bts_length, List.length_append] at h1
      have h2 := hr.btlen
      omega
    have HP := Lib.hid hp
    have HL := Lib.hid hl
    have HPL := Lib.hid hpl
    have h64 : n' < 18446744073709551616 := by
      refine Nat.lt_of_lt_of_le hl ?_
      exact Nat.pow_le_pow_right (n := 2) (by decide) (show 64 - 7 * k ≤ 64 by omega)
    clear hp hl hpl
    by_cases h128 : 128 ≤ n'
    · have hlt : ((n' : Int) < 128) = False := by simp; omega
      have hge : ((128 : Int) ≤ (n' : Int)) := by omega
      go_wp2_with (at_builtin; refine stop_in ?_)
      have hbox : Row (wr.heap.size + 1) (wr.alloc (.cells #[.int .u8 ((UInt8.ofNat (n' % 128 + 128)).toNat : Int)] 5)) (some ⟨wr.heap.size, 0, none⟩) 1 1 (bts [UInt8.ofNat (n' % 128 + 128)]) := box_row _ _ _
      rw [← or_top] at hbox
      refine stop_out (wpList_app rfl (.tmp 12) (.tmp 16) _ rfl w.heap.size 5 i0 _ 1 1 Tryz.underlying32 hi0 hz0 hz1 hz2 rfl (by omega) w (hb.alloc hb.size _) (Nat.le_trans hb.size (by simp)) _ (N + k) (bts (l ++ pre)) rfl (hown.alloc _) (wr.heap.size + 1) _ 1 1 (bts [UInt8.ofNat (n' % 128 + 128)]) rfl hbox (bts_one _) (N + (k + 1)) (bts (l ++ (pre ++ [UInt8.ofNat (n' % 128 + 128)]))) (by omega) (by simp [bts]) (by unfold maxLen; omega) (by omega) ?_)
      intro A3 c3 w3 hown3 hb3 _ hc3 hm3
      go_wp2
      go_roundw
      case rel =>
        have hp : pre ++ Pn.putF (9 - k) n' = Pn.put n := HP
        have hl : n' < 2 ^ (64 - 7 * k) := HL
        have hk9 : k ≠ 9 := by
          rintro rfl
          omega
        refine ⟨k + 1, n' / 128, pre ++ [UInt8.ofNat (n' % 128 + 128)], A3, c3, rfl, ?_, hown3, hc3, hm3, ?_, by omega, ?_, hb3⟩
        · go_num
        · rw [← hp, show 9 - k = (9 - (k + 1)) + 1 from by omega, Pn.putF, if_neg (by omega)]
          simp
        · rw [Nat.div_lt_iff_lt_mul (by decide), show (128 : Nat) = 2 ^ 7 from rfl, ← Nat.pow_add, show 64 - 7 * (k + 1) + 7 = 64 - 7 * k from by omega]
          exact hl
      case measure => simp [intOf]; omega
    · have hlt : ((128 : Int) ≤ (n' : Int)) = False := by simp; omega
      go_wp2_with (at_builtin; refine stop_in ?_)
      have hbox : Row (wr.heap.size + 1) (wr.alloc (.cells #[.int .u8 ((UInt8.ofNat n').toNat : Int)] 5)) (some ⟨wr.heap.size, 0, none⟩) 1 1 (bts [UInt8.ofNat n']) := box_row _ _ _
      rw [show ((UInt8.ofNat n').toNat : Int) = (n' : Int) from by rw [← byte_of_nat]; omega] at hbox
      have hfin : pre ++ [UInt8.ofNat n'] = Pn.put n := by
        have hp : pre ++ Pn.putF (9 - k) n' = Pn.put n := HP
        rw [← hp]
        cases h9 : 9 - k with
        | zero => rfl
        | succ j => rw [Pn.putF, if_pos (by omega)]
      have hlen : k + 1 = (Pn.put n).length := by
        have hpl : pre.length = k := HPL
        rw [← hfin]
        simp [hpl]
      have HF := Lib.hid hfin
      have HLN := Lib.hid hlen
      clear hfin hlen
      refine stop_out (wpList_app rfl (.tmp 18) (.tmp 21) _ rfl w.heap.size 5 i0 _ 1 1 Tryz.underlying32 hi0 hz0 hz1 hz2 rfl (by omega) w (hb.alloc hb.size _) (Nat.le_trans hb.size (by simp)) _ (N + k) (bts (l ++ pre)) rfl (hown.alloc _) (wr.heap.size + 1) _ 1 1 (bts [UInt8.ofNat n']) rfl hbox (bts_one _) (N + (Pn.put n).length) (bts (l ++ Pn.put n)) (by have h : k + 1 = (Pn.put n).length := HLN; omega) (by have h : pre ++ [UInt8.ofNat n'] = Pn.put n := HF; rw [← h]; simp [bts]) (by have := (Pn.put_len n).2; unfold maxLen; omega) (by have := (Pn.put_len n).2; omega) ?_)
      intro A3 c3 w3 hown3 hb3 _ hc3 hm3
      go_wp2
      go_ret
      exact ⟨A3, c3, rfl, hown3, hc3, hm3, hb3⟩
end Go.Proofs.YthepokgkfaocmaaGreatDoor

/-
  The walk of num.Take: the number that bytes begin with.
-/
namespace Go.Proofs.YthepokgkfaocmaaGreatDoor
open Go.RowKit

theorem and_low (x : UInt8) : bits .and .u8 (x.toNat : Int) 127 = ((x.toNat % 128 : Nat) : Int) := by
  have key : ∀ y : Fin 256, bits .and .u8 ((y.val : Nat) : Int) 127 = ((y.val % 128 : Nat) : Int) := by decide +kernel
  exact key ⟨x.toNat, x.toNat_lt⟩
theorem wrap64_nat (y : Nat) (h : y < 18446744073709551616) : IntKind.u64.wrap (y : Int) = (y : Int) := by
  rw [IntKind.wrap_u64]
  omega
theorem or_add (acc m k : Nat) (ha : acc < 2 ^ k) (hm : m * 2 ^ k < 18446744073709551616) (ha' : acc < 18446744073709551616) : bits .or .u64 (acc : Int) ((m * 2 ^ k : Nat) : Int) = ((acc + m * 2 ^ k : Nat) : Int) := by
  have h1 : ((BitVec.ofNat 64 acc).toNat : Int) = (acc : Int) := by rw [BitVec.toNat_ofNat, Nat.mod_eq_of_lt ha']
  have h2 : ((BitVec.ofNat 64 (m * 2 ^ k)).toNat : Int) = ((m * 2 ^ k : Nat) : Int) := by rw [BitVec.toNat_ofNat, Nat.mod_eq_of_lt hm]
  rw [← h1, ← h2, bits64_or, BitVec.toNat_or, BitVec.toNat_ofNat, BitVec.toNat_ofNat, Nat.mod_eq_of_lt ha', Nat.mod_eq_of_lt hm]
  congr 1
  rw [Nat.or_comm, Nat.mul_comm, ← Nat.two_pow_add_eq_or_of_lt ha]
  omega
theorem or_mix (acc : Nat) (x : UInt8) (k : Nat) (hk : k ≤ 9) (h9 : k = 9 → x.toNat ≤ 1) (ha : acc < 2 ^ (7 * k)) :
    bits .or .u64 (acc : Int) (IntKind.u64.wrap (IntKind.u64.wrap (bits .and .u8 (x.toNat : Int) 127) * 2 ^ (7 * k))) = ((acc + x.toNat % 128 * 2 ^ (7 * k) : Nat) : Int) ∧ acc + x.toNat % 128 * 2 ^ (7 * k) < 2 ^ (7 * (k + 1)) := by
  have hx : x.toNat % 128 < 128 := Nat.mod_lt _ (by decide)
  have hp : 2 ^ (7 * k) ≤ 2 ^ 63 := Nat.pow_le_pow_right (by decide) (by omega)
  have hm : x.toNat % 128 * 2 ^ (7 * k) < 18446744073709551616 := by
    by_cases e : k = 9
    · subst e
      have := h9 rfl
      omega
    · have h56 : 2 ^ (7 * k) ≤ 2 ^ 56 := Nat.pow_le_pow_right (by decide) (by omega)
      have : x.toNat % 128 * 2 ^ (7 * k) ≤ 127 * 2 ^ 56 := Nat.mul_le_mul (by omega) h56
      omega
  constructor
  · rw [and_low, wrap64_nat _ (by omega)]
    have e : ((x.toNat % 128 : Nat) : Int) * 2 ^ (7 * k) = ((x.toNat % 128 * 2 ^ (7 * k) : Nat) : Int) := by push_cast; rfl
    rw [e, wrap64_nat _ hm, or_add _ _ _ ha hm (by omega)]
  · rw [Pn.pow7]
    have : x.toNat % 128 * 2 ^ (7 * k) ≤ 127 * 2 ^ (7 * k) := Nat.mul_le_mul_right _ (by omega)
    omega

set_option maxRecDepth 100000 in
set_option maxHeartbeats 1000000 in
theorem take_any (A : Option Addr) (N c : Nat) (l : List UInt8) (w : World) (hN : N ≤ 1073741824) (hr : Row w.heap.size w A N 1 (bts l)) :
    Calls Tryz.prog 82 #[.slice A N c] w fun e w' => e = .returned (.tuple #[.int .u64 ((Pn.take l).1 : Int), .int .i64 ((Pn.take l).2.1 : Int), .int .i64 ((Pn.take l).2.2 : Int)]) ∧ w = w' := by
  have hln := hr.btlen
  go_enter Tryz.func82, Tryz.ntmps82
  go_wp2
  go_loop [2, 9] (fun x i => ∃ (k acc : Nat), k ≤ N ∧ k ≤ 9 ∧ acc < 2 ^ (7 * k) ∧ x = .int .u64 (acc : Int) ∧ i = .int .i64 (k : Int) ∧ Hid (Pn.take l = Pn.takeF k acc (l.drop k))) (fun _ i => N - (intOf i).toNat)
  case atStart => exact ⟨0, 0, Nat.zero_le _, Nat.zero_le _, by decide, rfl, rfl, Lib.hid (by rfl)⟩
  case round =>
    obtain ⟨k, acc, hk, hk9, hacc, rfl, rfl, hh⟩ := hrel
    by_cases hlt : k < N
    · obtain ⟨a, hl, rfl, _, hc⟩ := hr.bt hlt
      have hstep : Pn.take l = Pn.takeF k acc (l[k] :: l.drop (k + 1)) := by
        have h : Pn.take l = Pn.takeF k acc (l.drop k) := hh
        rw [h, List.drop_eq_getElem_cons hl]
      generalize l[k] = x at *
      have HS := Lib.hid hstep
      have HA := Lib.hid hacc
      clear hh hstep hacc
      have hx : x.toNat < 256 := x.toNat_lt
      by_cases b1 : (k = 9 ∧ 1 < x.toNat) ∨ (0 < k ∧ x.toNat = 0)
      · have hr3 : Pn.take l = (0, 0, 3) := by
          have h : Pn.take l = Pn.takeF k acc (x :: l.drop (k + 1)) := HS
          rw [h, Pn.takeF, if_pos b1]
        have HR := Lib.hid hr3
        clear hr3
        have fin : Ending.returned (Value.tuple #[Value.int IntKind.u64 0, Value.int IntKind.i64 0, Value.int IntKind.i64 3]) = .returned (.tuple #[.int .u64 ((Pn.take l).1 : Int), .int .i64 ((Pn.take l).2.1 : Int), .int .i64 ((Pn.take l).2.2 : Int)]) := by
          have h : Pn.take l = (0, 0, 3) := HR
          rw [h]
          rfl
        have FIN := Lib.hid fin
        clear fin
        rcases b1 with ⟨b1, b2⟩ | ⟨b1, b2⟩
        · subst b1
          have hc9 : w.cell? { block := a.block, off := a.off + 9 } = some (.int .u8 (x.toNat : Int)) := by simpa [Addr.add] using hc
          have c2 : ((1 : Int) < (x.toNat : Int)) := by omega
          go_wp2
          exact bodyPost_ret (v := .tuple #[.int .u64 0, .int .i64 0, .int .i64 3]) (by simp [results, go_sem]) rfl ⟨FIN, rfl⟩
        · by_cases b3 : k = 9
          · subst b3
            have hc9 : w.cell? { block := a.block, off := a.off + 9 } = some (.int .u8 (x.toNat : Int)) := by simpa [Addr.add] using hc
            have c2 : ((1 : Int) < (x.toNat : Int)) = False := by simp; omega
            have c4 : ((x.toNat : Int) == 0) = true := by simp; omega
            go_wp2
            exact bodyPost_ret (v := .tuple #[.int .u64 0, .int .i64 0, .int .i64 3]) (by simp [results, go_sem]) rfl ⟨FIN, rfl⟩
          · have c1 : ((k : Int) == 9) = false := by simp; omega
            have c3 : ((0 : Int) < (k : Int)) := by omega
            have c4 : ((x.toNat : Int) == 0) = true := by simp; omega
            go_wp2
            exact bodyPost_ret (v := .tuple #[.int .u64 0, .int .i64 0, .int .i64 3]) (by simp [results, go_sem]) rfl ⟨FIN, rfl⟩
      · obtain ⟨hm1, hm2⟩ := or_mix acc x k hk9 (fun e => by omega) HA
        generalize hR : acc + x.toNat % 128 * 2 ^ (7 * k) = R at hm1 hm2
        have HM2 := Lib.hid hm2
        have HR := Lib.hid hR
        clear hm2 hR
        by_cases b3 : x.toNat < 128
        · have c5 : ((x.toNat : Int) < 128) := by omega
          have hr3 : Pn.take l = (R, k + 1, 0) := by
            have hR : acc + x.toNat % 128 * 2 ^ (7 * k) = R := HR
            have h : Pn.take l = Pn.takeF k acc (x :: l.drop (k + 1)) := HS
            rw [h, Pn.takeF, if_neg b1, if_pos b3, ← hR, Nat.mod_eq_of_lt b3]
          have fin : Ending.returned (Value.tuple #[Value.int IntKind.u64 ((R : Nat) : Int), Value.int IntKind.i64 ((k : Int) + 1), Value.int IntKind.i64 0]) = .returned (.tuple #[.int .u64 ((Pn.take l).1 : Int), .int .i64 ((Pn.take l).2.1 : Int), .int .i64 ((Pn.take l).2.2 : Int)]) := by
            rw [hr3]
            rfl
          have FIN := Lib.hid fin
          clear fin hr3
          by_cases d1 : k = 9
          · subst d1
            have hc9 : w.cell? { block := a.block, off := a.off + 9 } = some (.int .u8 (x.toNat : Int)) := by simpa [Addr.add] using hc
            have hm9 : bits .or .u64 (acc : Int) (IntKind.u64.wrap (IntKind.u64.wrap (bits .and .u8 (x.toNat : Int) 127) * 9223372036854775808)) = (R : Int) := hm1
            have c2 : ((1 : Int) < (x.toNat : Int)) = False := by simp; omega
            have c4 : ((x.toNat : Int) == 0) = false := by simp; omega
            go_wp2
            refine bodyPost_ret (v := .tuple #[.int .u64 ((R : Nat) : Int), .int .i64 10, .int .i64 0]) (by simp [results, go_sem]) rfl ⟨FIN, rfl⟩
          · have c1 : ((k : Int) == 9) = false := by simp; omega
            by_cases d2 : 0 < k
            · have c3 : ((0 : Int) < (k : Int)) := by omega
              have c4 : ((x.toNat : Int) == 0) = false := by simp; omega
              go_wp2
              refine bodyPost_ret (v := .tuple #[.int .u64 ((R : Nat) : Int), .int .i64 ((k : Int) + 1), .int .i64 0]) (by simp [results, go_sem]) rfl ⟨FIN, rfl⟩
            · have c3 : ((0 : Int) < (k : Int)) = False := by simp; omega
              go_wp2
              refine bodyPost_ret (v := .tuple #[.int .u64 ((R : Nat) : Int), .int .i64 ((k : Int) + 1), .int .i64 0]) (by simp [results, go_sem]) rfl ⟨FIN, rfl⟩
        · have c5 : ((x.toNat : Int) < 128) = False := by simp; omega
          have c4 : ((x.toNat : Int) == 0) = false := by simp; omega
          have d1 : k ≠ 9 := by omega
          have c1 : ((k : Int) == 9) = false := by simp; omega
          have hnx : Pn.take l = Pn.takeF (k + 1) R (l.drop (k + 1)) := by
            have hR : acc + x.toNat % 128 * 2 ^ (7 * k) = R := HR
            have h : Pn.take l = Pn.takeF k acc (x :: l.drop (k + 1)) := HS
            rw [h, Pn.takeF, if_neg b1, if_neg b3, ← hR, show x.toNat % 128 = x.toNat - 128 from by omega]
          have HN := Lib.hid hnx
          clear hnx
          by_cases d2 : 0 < k
          · have c3 : ((0 : Int) < (k : Int)) := by omega
            go_wp2
            go_round
            case rel => exact ⟨k + 1, R, by omega, by omega, HM2, rfl, by go_num, HN⟩
            case measure => simp [intOf]; omega
          · have c3 : ((0 : Int) < (k : Int)) = False := by simp; omega
            go_wp2
            go_round
            case rel => exact ⟨k + 1, R, by omega, by omega, HM2, rfl, by go_num, HN⟩
            case measure => simp [intOf]; omega
    · have hr3 : Pn.take l = (0, 0, 4) := by
        have h : Pn.take l = Pn.takeF k acc (l.drop k) := hh
        rw [h, List.drop_eq_nil_of_le (by omega)]
        rfl
      have fin : Ending.returned (Value.tuple #[Value.int IntKind.u64 0, Value.int IntKind.i64 0, Value.int IntKind.i64 4]) = .returned (.tuple #[.int .u64 ((Pn.take l).1 : Int), .int .i64 ((Pn.take l).2.1 : Int), .int .i64 ((Pn.take l).2.2 : Int)]) := by
        rw [hr3]
        rfl
      have FIN := Lib.hid fin
      clear fin hr3
      go_wp2
      exact bodyPost_ret (v := .tuple #[.int .u64 0, .int .i64 0, .int .i64 4]) (by simp [results, go_sem]) rfl ⟨FIN, rfl⟩
end Go.Proofs.YthepokgkfaocmaaGreatDoor

/-
  The walks of num.List and num.Unlist: numbers behind one another, with how many ahead.
-/
namespace Go.Proofs.YthepokgkfaocmaaGreatDoor
open Go.RowKit

/-- Numbers as cells. -/
def u64v (ns : List Nat) : List Value := ns.map fun n : Nat => .int .u64 (n : Int)
theorem u64v_one (ns : List Nat) : ∀ u ∈ u64v ns, u.oneCell' = true := by
  intro u hu
  obtain ⟨n, _, rfl⟩ := List.mem_map.1 hu
  rfl
theorem u64v_get (ns : List Nat) (k : Nat) : (u64v ns)[k]? = (ns[k]?).map fun n : Nat => .int .u64 (n : Int) := by simp [u64v]
theorem Row.un {B n : Nat} {w : World} {A : Option Addr} {ns : List Nat} (h : Row B w A n 1 (u64v ns)) {k : Nat} (hk : k < n) : ∃ a, ∃ hl : k < ns.length, A = some a ∧ a.block < B ∧ w.cell? (a.add k) = some (.int .u64 ((ns[k] : Nat) : Int)) := by
  obtain ⟨a, v, e, hb, hv, hc⟩ := h.at1 hk
  have hl : k < ns.length := by
    have := h.len
    simp [u64v] at this
    omega
  rw [u64v_get, List.getElem?_eq_getElem hl] at hv
  injection hv with hv
  subst hv
  exact ⟨a, hl, e, hb, hc⟩
theorem Row.unlen {B n : Nat} {w : World} {A : Option Addr} {ns : List Nat} (h : Row B w A n 1 (u64v ns)) : ns.length = n := by
  have := h.len
  simp [u64v] at this
  omega
theorem flat_put_len (ns : List Nat) : (ns.flatMap Pn.put).length ≤ ns.length * 10 := by
  induction ns with
  | nil => simp
  | cons n r ih =>
    have := (Pn.put_len n).2
    simp only [List.flatMap_cons, List.length_append, List.length_cons]
    omega

set_option maxRecDepth 100000 in
set_option maxHeartbeats 1000000 in
theorem list_any (A : Option Addr) (N c : Nat) (l : List UInt8) (L : Option Addr) (m d : Nat) (ns : List Nat) (w : World) (hN : N ≤ 1000000) (hm : m ≤ 1000) (hr : Row w.heap.size w A N 1 (bts l)) (hq : Row w.heap.size w L m 1 (u64v ns)) (hns : ∀ n ∈ ns, n < 18446744073709551616) :
    Calls Tryz.prog 73 #[.slice A N c, .slice L m d] w fun e w' => ∃ A' M c', e = .returned (.slice A' M c') ∧
      w'.ownsRow w.heap.size 5 1 (.slice A' M c') M (bts (l ++ Pn.list ns)) ∧ M ≤ c' ∧ c' ≤ maxLen ∧ Below w.heap.size w w' := by
  have hln := hr.btlen
  have hmn := hq.unlen
  have hcv : ∀ w, (convert 3 29 (.int .i64 (m : Int))).run Tryz.prog w = .ok (.int .u64 (m : Int)) w := by
    intro w
    have : (m : Int) % 18446744073709551616 = (m : Int) := by omega
    simp [go_sem, convert, IntKind.wrap_u64, this]
  go_enter Tryz.func73, Tryz.ntmps73
  go_wp2_with fail
  refine (put_any A N c l m (by omega) w (by omega) hr).mono ?_
  rintro e w1 ⟨A1, c1, rfl, ho1, hc1, hm1, hb1⟩
  obtain ⟨M1, hM1⟩ : ∃ M1, M1 = N + (Pn.put m).length := ⟨_, rfl⟩
  have hM1b : M1 ≤ N + 10 := by have := (Pn.put_len m).2; omega
  rw [← hM1] at ho1 hc1 ⊢
  have HM := Lib.hid hM1
  clear hM1
  go_wp2
  go_loopw [5, 15] (fun o i wr => ∃ (k : Nat) (A' : Option Addr) (M c' : Nat), k ≤ m ∧ o = .slice A' M c' ∧ i = .int .i64 (k : Int) ∧ wr.ownsRow w.heap.size 5 1 (.slice A' M c') M (bts (l ++ (Pn.put m ++ (ns.take k).flatMap Pn.put))) ∧ M ≤ c' ∧ c' ≤ maxLen ∧ Below w.heap.size w wr) (fun _ i _ => m - (intOf i).toNat)
  case atStart => exact ⟨0, A1, M1, c1, Nat.zero_le _, rfl, rfl, by simpa using ho1, hc1, hm1, hb1⟩
  case round =>
    obtain ⟨k, A', M, c', hk, rfl, rfl, hown, hc', hm', hb⟩ := hrel
    have hML : M = N + ((Pn.put m).length + ((ns.take k).flatMap Pn.put).length) := by
      have h1 := hown.1
      rw [bts_length] at h1
      simp only [List.length_append] at h1
      omega
    have hMB : M ≤ N + 10 + 10000 := by
      have h1 := flat_put_len (ns.take k)
      have h2 := (Pn.put_len m).2
      have h3 := List.length_take_le k ns
      omega
    have HML := Lib.hid hML
    clear hML
    by_cases hlt : k < m
    · obtain ⟨a, hl, rfl, hab, hc⟩ := (hq.below hb).un hlt
      have htk : ns.take (k + 1) = ns.take k ++ [ns[k]] := (List.take_append_getElem hl).symm
      have hnk := hns ns[k] (List.getElem_mem hl)
      generalize ns[k] = x at *
      have HT := Lib.hid htk
      clear htk
      go_wp2_with fail
      refine (put_any A' M c' (l ++ (Pn.put m ++ (ns.take k).flatMap Pn.put)) x hnk wr (by omega) (Row.own hown)).mono ?_
      rintro e w2 ⟨A2, c2, rfl, ho2, hc2, hm2, hb2⟩
      go_wp2
      go_roundw
      case rel =>
        refine ⟨k + 1, A2, M + (Pn.put x).length, c2, by omega, rfl, by go_num, ?_, hc2, hm2, later_ hb hb2⟩
        have ht : ns.take (k + 1) = ns.take k ++ [x] := HT
        rw [ht]
        have := own_base ho2 hb.size
        simpa [List.append_assoc] using this
      case measure => simp [intOf]; omega
    · have hkm : k = m := by omega
      have hfin : l ++ (Pn.put m ++ (ns.take k).flatMap Pn.put) = l ++ Pn.list ns := by
        rw [hkm, List.take_of_length_le (by omega), Pn.list, hmn]
      rw [hfin] at hown
      go_wp2
      go_ret
      exact ⟨A', M, c', rfl, hown, hc', hm', hb⟩
end Go.Proofs.YthepokgkfaocmaaGreatDoor
