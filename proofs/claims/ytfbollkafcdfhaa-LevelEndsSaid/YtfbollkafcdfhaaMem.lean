/-
  Words for memory: a slice whose elements are known ('Row'), and how it is kept; what an append of a row onto a row of the call's own gives. Plain facts on worlds; no function of the program.
-/
import Derived.Maps.AppendAt
import Derived.Deep.AppendLies
import Derived.Deep.Draws
import Derived.Laws.OwnMore
import Derived.Laws.BytesString
import Derived.Below
import Derived.OwnWalk
namespace Go.Proofs.Ytfbollkafcdfhaa
open Go Go.RowKit

theorem add_block (a : Addr) (n : Nat) : (a.add n).block = a.block := by
  unfold Addr.add
  split <;> rfl
theorem add_zero_ (a : Addr) : a.add 0 = a := rfl
theorem add_twice (a : Addr) (i j : Nat) : (a.add i).add j = a.add (i + j) := by
  unfold Addr.add
  rcases Nat.eq_zero_or_pos i with hi | hi <;> rcases Nat.eq_zero_or_pos j with hj | hj
  · simp [hi, hj]
  · rw [if_neg (by omega : ¬ j = 0), if_pos hi, if_neg (by omega), hi, Nat.zero_add]
  · rw [if_pos hj, hj, if_neg (by omega), if_neg (by omega)]
    rfl
  · rw [if_neg (by omega : ¬ j = 0), if_neg (by omega : ¬ i = 0), if_neg (by omega)]
    simp only [Nat.add_assoc]

/-- The slice of n elements of 'size' cells each at A reads as the cells xs, in a block below B. -/
structure Row (B : Nat) (w : World) (A : Option Addr) (n size : Nat) (xs : List Value) : Prop where
  len : xs.length = n * size
  cell : ∀ j (h : j < xs.length), ∃ a, A = some a ∧ a.block < B ∧ w.cell? (a.add j) = some (xs[j])

variable {B B' n size : Nat} {w w' : World} {A : Option Addr} {xs : List Value}
theorem Row.nil_ : Row B w A 0 size [] := ⟨by simp, fun j h => absurd h (by simp)⟩
theorem Row.up (h : Row B w A n size xs) (hB : B ≤ B') : Row B' w A n size xs :=
  ⟨h.len, fun j hj => let ⟨a, e, b, c⟩ := h.cell j hj; ⟨a, e, by omega, c⟩⟩
theorem Row.keep (h : Row B w A n size xs) (hk : ∀ p : Addr, p.block < B → w'.cell? p = w.cell? p) : Row B w' A n size xs :=
  ⟨h.len, fun j hj => let ⟨a, e, b, c⟩ := h.cell j hj; ⟨a, e, b, (hk _ (by rw [add_block]; exact b)).trans c⟩⟩
theorem Row.below (h : Row B w A n size xs) (hb : Below B w w') : Row B w' A n size xs := h.keep fun _ hp => hb.cell hp
theorem Row.go (h : Row B w A n size xs) (hB : B ≤ B') (hb : Below B' w w') : Row B w' A n size xs := h.below (hb.mono hB)
/-- As an argument: below the heap's size of the world in which the call begins. -/
theorem Row.arg (h : Row B w A n size xs) (hB : B ≤ w.heap.size) : Row w.heap.size w A n size xs := h.up hB
theorem Row.alloc (h : Row B w A n size xs) (hB : B ≤ w.heap.size) (o : Obj) : Row B (w.alloc o) A n size xs :=
  h.keep fun p hp => World.cell?_alloc_lt w o p (by omega)
theorem Row.drew (h : Row B w A n size xs) : Row B w.drew A n size xs := h.keep fun _ _ => rfl
theorem Row.drewN (h : Row B w A n size xs) (k : Nat) : Row B (w.drewN k) A n size xs := h.keep fun _ _ => rfl
theorem Row.setCell (h : Row B w A n size xs) {p : Addr} (hB : B ≤ p.block) (u : Value) : Row B (w.setCell p u) A n size xs :=
  h.keep fun q hq => World.cell?_setCell_other w p q u (fun e => by subst e; omega)
theorem Row.grown (h : Row B w A n size xs) {row : Option Nat} (hg : w.grownBy w' row) (hB : B ≤ w.heap.size) (hr : ∀ g, row = some g → B ≤ g) : Row B w' A n size xs :=
  h.below ((Below.refl B w).grown hg hB hr)
/-- The cell of an element of one cell, where there is one. -/
theorem Row.at1 (h : Row B w A n 1 xs) {k : Nat} (hk : k < n) : ∃ a v, A = some a ∧ a.block < B ∧ xs[k]? = some v ∧ w.cell? (a.add k) = some v := by
  have hl : k < xs.length := by have := h.len; omega
  obtain ⟨a, e, b, c⟩ := h.cell k hl
  exact ⟨a, xs[k], e, b, List.getElem?_eq_getElem hl, c⟩
theorem Row.some_ (h : Row B w A n size xs) (hn : 0 < xs.length) : ∃ a, A = some a ∧ a.block < B := by
  obtain ⟨a, e, b, _⟩ := h.cell 0 hn
  exact ⟨a, e, b⟩
theorem Row.cells {a : Addr} (h : Row B w (some a) n size xs) : ∀ j u, xs[j]? = some u → w.cell? (a.add j) = some u := by
  intro j u hu
  obtain ⟨hl, rfl⟩ := List.getElem?_eq_some_iff.1 hu
  obtain ⟨a', e, _, c⟩ := h.cell j hl
  injection e with e
  subst e
  exact c
/-- A cut 's[k:m]' of elements of 'size' cells; the model leaves the address where nothing is left of the capacity. -/
theorem Row.cut (h : Row B w A n size xs) {k m : Nat} (hk : k ≤ m) (hm : m ≤ n) {A' : Option Addr} (hA : k < m → A' = A.map (·.add (k * size))) :
    Row B w A' (m - k) size ((xs.drop (k * size)).take ((m - k) * size)) := by
  have hle : (m - k) * size ≤ xs.length - k * size := by
    rw [h.len, ← Nat.sub_mul]
    exact Nat.mul_le_mul_right _ (by omega)
  refine ⟨by rw [List.length_take, List.length_drop]; omega, fun j hj => ?_⟩
  have hj' : j < (m - k) * size := by rw [List.length_take] at hj; omega
  have hkm : k < m := by
    rcases Nat.lt_or_ge k m with h0 | h0
    · exact h0
    · rw [show m - k = 0 from by omega, Nat.zero_mul] at hj'; omega
  obtain ⟨a, rfl, hb, hc⟩ := h.cell (k * size + j) (by omega)
  refine ⟨a.add (k * size), hA hkm, by rw [add_block]; exact hb, ?_⟩
  rw [add_twice, hc]
  simp
theorem Row.pre (h : Row B w A n size xs) {m : Nat} (hm : m ≤ n) : Row B w A m size (xs.take (m * size)) := by
  have := h.cut (A' := A) (Nat.zero_le m) hm (fun _ => by cases A <;> simp [Addr.add])
  simpa using this
/-- A block that was just laid. -/
theorem Row.new (w : World) (cs : Array Value) (e : TypeId) {n size : Nat} (hs : cs.size = n * size) (fr : Nat × Nat := (0, 0)) : Row (w.heap.size + 1) (w.alloc (.cells cs e fr)) (some ⟨w.heap.size, 0, none⟩) n size cs.toList := by
  refine ⟨by simpa using hs, fun j hj => ⟨_, rfl, by simp, ?_⟩⟩
  have : ((⟨w.heap.size, 0, none⟩ : Addr).add j) = ⟨w.heap.size, j, none⟩ := by
    unfold Addr.add
    split <;> simp_all
  rw [this, cell_of_row _ _ _ _ _ _ (heap_alloc_new w _)]
  simp at hj ⊢
theorem Row.own {base : Nat} {e : TypeId} {c : Nat} (h : w.ownsRow base e size (.slice A n c) n xs) : Row w.heap.size w A n size xs := by
  refine ⟨h.1, fun j hj => ?_⟩
  rcases h.2 with ⟨hv, hn⟩ | ⟨g, cap, cur, hv, hb, hg, _, _, _, htake⟩
  · subst hn
    have := h.1
    omega
  · injection hv with hA _ _
    subst hA
    exact ⟨_, rfl, (Array.getElem?_eq_some_iff.1 hg).1, h.cells (g := g) rfl j _ (List.getElem?_eq_getElem hj)⟩

/-- What the call owns, as a slice written out. -/
theorem own_form {base : Nat} {e : TypeId} {v : Value} (h : w.ownsRow base e size v n xs) :
    ∃ A c, v = .slice A n c ∧ n ≤ c ∧ c ≤ maxLen ∧ (∀ a, A = some a → base ≤ a.block ∧ a.block < w.heap.size ∧ a.spot = none ∧ a.off = 0) := by
  rcases h.2 with ⟨rfl, rfl⟩ | ⟨g, cap, cur, rfl, hb, hg, hn, hc, _⟩
  · exact ⟨none, 0, rfl, Nat.le_refl _, Nat.zero_le _, fun a h => by cases h⟩
  · exact ⟨_, cap, rfl, hn, hc, fun a h => by cases h; exact ⟨hb, (Array.getElem?_eq_some_iff.1 hg).1, rfl, rfl⟩⟩
theorem own_below {base : Nat} {e : TypeId} {v : Value} (h : w.ownsRow base e size v n xs) (hb : Below w.heap.size w w') : w'.ownsRow base e size v n xs :=
  h.kept (row := none) ⟨hb.os, hb.tape, hb.output, hb.size, fun k hk _ => hb.block k hk⟩ (by cases v.ownBlock <;> simp)
theorem own_base {base base' : Nat} {e : TypeId} {v : Value} (h : w.ownsRow base e size v n xs) (hb : base' ≤ base) : w.ownsRow base' e size v n xs := by
  refine ⟨h.1, ?_⟩
  rcases h.2 with h0 | ⟨g, cap, cur, rfl, h1, r⟩
  · exact .inl h0
  · exact .inr ⟨g, cap, cur, rfl, by omega, r⟩
/-- An append's frame, for what lies below the base of what is owned. -/
theorem below_own {base : Nat} {e : TypeId} {v : Value} {a : World} (h : Below base a w) (ho : w.ownsRow base e size v n xs) (hg : w.grownBy w' v.ownBlock) (hB : base ≤ w.heap.size) : Below base a w' :=
  h.grown hg hB (fun k hk => (ho.lt k hk).1)
theorem below_drewN {B : Nat} {a w : World} (h : Below B a w) (n : Nat) : Below B a (w.drewN n) := ⟨h.os, h.tape, h.output, h.size, h.block⟩

/-- append of a row, of whatever make, onto a row of the call's own. -/
theorem run_app {P : Program} (w : World) (base : Nat) (t ty e : TypeId) (i : TypeInfo) (z : Value) (size bytes : Nat) (ht : P.underlying t = some (.slice e)) (hi : P.info? e = some i) (hz : i.zero = some z)
    (hsize : i.size = size) (hby : i.bytes = bytes) (hzs : z.cells.size = size) (hsz : 0 < size) (v : Value) (n : Nat) (xs : List Value) (hown : w.ownsRow base e size v n xs)
    (B : Nat) (A : Option Addr) (m c : Nat) (news : List Value) (hr : Row B w A m size news) (h1 : ∀ u ∈ news, u.oneCell' = true)
    (h63 : n + m ≤ maxLen) (hbytes : (n + m) * bytes ≤ 140737488355328) (hbase : base ≤ w.heap.size) :
    ∃ A' c' w', (Builtin.append_ #[t, t] ty #[v, .slice A m c]).run P w = .ok (.slice A' (n + m) c') w' ∧ w'.ownsRow base e size (.slice A' (n + m) c') (n + m) (xs ++ news) ∧ w.grownBy w' v.ownBlock ∧ n + m ≤ c' ∧ c' ≤ maxLen := by
  have pack : ∀ v' w', (Builtin.append_ #[t, t] ty #[v, .slice A m c]).run P w = .ok v' w' → w'.ownsRow base e size v' (n + m) (xs ++ news) → w.grownBy w' v.ownBlock →
      ∃ A' c' w', (Builtin.append_ #[t, t] ty #[v, .slice A m c]).run P w = .ok (.slice A' (n + m) c') w' ∧ w'.ownsRow base e size (.slice A' (n + m) c') (n + m) (xs ++ news) ∧ w.grownBy w' v.ownBlock ∧ n + m ≤ c' ∧ c' ≤ maxLen := by
    intro v' w' h2 h3 h4
    obtain ⟨A', c', rfl, h5, h6, _⟩ := own_form h3
    exact ⟨A', c', w', h2, h3, h4, h5, h6⟩
  rcases Nat.eq_zero_or_pos m with h0 | h0
  · subst h0
    have hn : news = [] := List.eq_nil_of_length_eq_zero (by simpa using hr.len)
    subst hn
    rw [List.append_nil] at pack ⊢
    refine pack v w ?_ hown ⟨rfl, rfl, rfl, Nat.le_refl _, fun _ _ _ => rfl⟩
    rcases hown.2 with ⟨rfl, rfl⟩ | ⟨g, cap, cur, rfl, _, _, hnc, _⟩
    · rcases A with _ | a <;> simp [Builtin.append_, run_underlying ht, sizeOf, typeInfo, hi, Builtin.lenOf, Builtin.firstCells, loadCells, loadCellsFrom]
    · rcases A with _ | a <;> simp [Builtin.append_, run_underlying ht, sizeOf, typeInfo, hi, Builtin.lenOf, Builtin.firstCells, loadCells, loadCellsFrom, hnc, storeCells]
  · have hpos : 0 < news.length := by
      rw [hr.len]
      exact Nat.mul_pos h0 hsz
    obtain ⟨a, rfl, _⟩ := hr.some_ hpos
    obtain ⟨v', w', h2, h3, h4, _⟩ := run_append_own_at (P := P) w base t ty e i z size bytes ht hi hz hsize hby hzs hsz v n xs hown a m c news hr.len hr.cells h1 h63 hbytes hbase
    exact pack v' w' h2 h3 h4

theorem wp_app {P : Program} (w : World) {o : Oper} {a : Act} {K : Act → World → Prop} {Q : Exit → Act → World → Prop} (s x : Operand) (t : TypeId)
    (ho : o.op = .call { callee := .builtin .append, args := #[s, x], argTypes := #[t, t] })
    (base : Nat) (e : TypeId) (i : TypeInfo) (z : Value) (size bytes : Nat) (ht : P.underlying t = some (.slice e)) (hi : P.info? e = some i) (hz : i.zero = some z)
    (hsize : i.size = size) (hby : i.bytes = bytes) (hzs : z.cells.size = size) (hsz : 0 < size) (w0 : World) (hb : Below base w0 w) (hbase : base ≤ w.heap.size) (v : Value) (n : Nat) (xs : List Value) (hs : a.eval s = v) (hown : w.ownsRow base e size v n xs)
    (B : Nat) (A : Option Addr) (m c : Nat) (news : List Value) (hx : a.eval x = .slice A m c) (hr : Row B w A m size news) (h1 : ∀ u ∈ news, u.oneCell' = true)
    (h63 : n + m ≤ maxLen) (hbytes : (n + m) * bytes ≤ 140737488355328)
    (h : ∀ A' c' w', w'.ownsRow base e size (.slice A' (n + m) c') (n + m) (xs ++ news) → Below base w0 w' → w.grownBy w' v.ownBlock → n + m ≤ c' → c' ≤ maxLen → K (a.put o.dst (.slice A' (n + m) c')) w') : o.wp P a w K Q := by
  obtain ⟨A', c', w', hrun, h2, h3, h4, h5⟩ := run_app (P := P) w base t o.type e i z size bytes ht hi hz hsize hby hzs hsz v n xs hown B A m c news hr h1 h63 hbytes hbase
  unfold Oper.wp execOp
  simp only [ho, resolve, invoke, builtin, Sem.run_bind, Sem.run_pure, Result.andThen_ok, List.map_toArray, List.map_cons, List.map_nil, hs, hx, hrun]
  exact h A' c' w' h2 (below_own hb hown h3 hbase) h3 h4 h5

theorem wpList_app {P : Program} {w : World} {ops : Array Oper} {rest : List Oper} {o : Oper} {a : Act} {Q : Exit → Act → World → Prop} (hgd : o.guard = none) (s x : Operand) (t : TypeId)
    (ho : o.op = .call { callee := .builtin .append, args := #[s, x], argTypes := #[t, t] })
    (base : Nat) (e : TypeId) (i : TypeInfo) (z : Value) (size bytes : Nat) (ht : P.underlying t = some (.slice e)) (hi : P.info? e = some i) (hz : i.zero = some z)
    (hsize : i.size = size) (hby : i.bytes = bytes) (hzs : z.cells.size = size) (hsz : 0 < size) (w0 : World) (hb : Below base w0 w) (hbase : base ≤ w.heap.size) (v : Value) (n : Nat) (xs : List Value) (hs : a.eval s = v) (hown : w.ownsRow base e size v n xs)
    (B : Nat) (A : Option Addr) (m c : Nat) (news : List Value) (hx : a.eval x = .slice A m c) (hr : Row B w A m size news) (h1 : ∀ u ∈ news, u.oneCell' = true)
    (N : Nat) (X : List Value) (hN : n + m = N) (hX : xs ++ news = X) (h63 : N ≤ maxLen) (hbytes : N * bytes ≤ 140737488355328)
    (h : ∀ A' c' w', w'.ownsRow base e size (.slice A' N c') N X → Below base w0 w' → w.grownBy w' v.ownBlock → N ≤ c' → c' ≤ maxLen → wpList P ops Q rest (a.put o.dst (.slice A' N c')) w') : wpList P ops Q (o :: rest) a w := by
  subst hN
  subst hX
  exact wpList_plain hgd fun _ hK => wp_app w s x t ho base e i z size bytes ht hi hz hsize hby hzs hsz w0 hb hbase v n xs hs hown B A m c news hx hr h1 h63 hbytes fun A' c' w' h2 h3 h4 h5 h6 => hK _ _ (h A' c' w' h2 h3 h4 h5 h6)

/-- The same onto the nil slice. -/
theorem wpList_app0 {P : Program} {w : World} {ops : Array Oper} {rest : List Oper} {o : Oper} {a : Act} {Q : Exit → Act → World → Prop} (hgd : o.guard = none) (s x : Operand) (t : TypeId)
    (ho : o.op = .call { callee := .builtin .append, args := #[s, x], argTypes := #[t, t] })
    (base : Nat) (e : TypeId) (i : TypeInfo) (z : Value) (size bytes : Nat) (ht : P.underlying t = some (.slice e)) (hi : P.info? e = some i) (hz : i.zero = some z)
    (hsize : i.size = size) (hby : i.bytes = bytes) (hzs : z.cells.size = size) (hsz : 0 < size) (w0 : World) (hb : Below base w0 w) (hbase : base ≤ w.heap.size) (hs : a.eval s = .slice none 0 0)
    (B : Nat) (A : Option Addr) (m c : Nat) (news : List Value) (hx : a.eval x = .slice A m c) (hr : Row B w A m size news) (h1 : ∀ u ∈ news, u.oneCell' = true)
    (h63 : m ≤ maxLen) (hbytes : m * bytes ≤ 140737488355328)
    (h : ∀ A' c' w', w'.ownsRow base e size (.slice A' m c') m news → Below base w0 w' → w.grownBy w' none → m ≤ c' → c' ≤ maxLen → wpList P ops Q rest (a.put o.dst (.slice A' m c')) w') : wpList P ops Q (o :: rest) a w :=
  wpList_app hgd s x t ho base e i z size bytes ht hi hz hsize hby hzs hsz w0 hb hbase (.slice none 0 0) 0 [] hs (World.ownsRow_nil _ _ _ _) B A m c news hx hr h1 m news (Nat.zero_add m) (List.nil_append news) h63 hbytes
    (by simpa [Value.ownBlock] using h)

/-- make([]T, n) of elements of one cell. -/
theorem make1 {P : Program} (t e : TypeId) (i : TypeInfo) (z : Value) (ht : P.underlying t = some (.slice e)) (hi : P.info? e = some i) (hz : i.zero = some z) (h1 : i.size = 1) (hzc : z.cells = #[z]) (n : Nat) (hb : i.bytes * n ≤ 281474976710656) (hn : n ≤ 9223372036854775807) :
    ∃ cs : Array Value, cs.toList = List.replicate n z ∧ ∀ W : World, (Instr.makeSlice t (.int .i64 (n : Int)) (.int .i64 (n : Int))).run P W = .ok (.slice (some ⟨W.heap.size, 0, none⟩) n n) (W.alloc (.cells cs e)) := by
  refine ⟨madeCells #[z] n, toList_madeCells_one z n, fun W => ?_⟩
  have hb' : (i.bytes : Int) * (n : Int) ≤ 281474976710656 := by
    have h : ((i.bytes * n : Nat) : Int) ≤ 281474976710656 := by omega
    rwa [Int.natCast_mul] at h
  have hr := run_make (P := P) W t e i z ht hi hz .i64 .i64 n n (by omega) (by omega) hb' (by omega)
  simpa [h1, hzc] using hr

/-- A row that is filled from its head on. -/
theorem fill_set {xs : List Value} {N k : Nat} (hx : xs.length = N) (hk : k < N) (z : Value) : (xs.take k ++ List.replicate (N - k) z).set k (xs[k]'(by omega)) = xs.take (k + 1) ++ List.replicate (N - (k + 1)) z := by
  rw [List.set_append, if_neg (by simp; omega), List.length_take, Nat.min_eq_left (by omega), Nat.sub_self, show N - k = (N - (k + 1)) + 1 from by omega, List.replicate_succ, List.set_cons_zero, List.take_succ_eq_append_getElem (by omega), List.append_assoc]
  rfl

/-- A walk is made to stand: the arm '(at_builtin; refine stop_in ?_)'. -/
def Stop (p : Prop) : Prop := p
theorem stop_in {p : Prop} (h : Stop p) : p := h
theorem stop_out {p : Prop} (h : p) : Stop p := h

/-- Bytes as cells. -/
def bts (l : List UInt8) : List Value := l.map fun c => .int .u8 (c.toNat : Int)
theorem bts_length (l : List UInt8) : (bts l).length = l.length := by simp [bts]
theorem bts_get (l : List UInt8) (k : Nat) : (bts l)[k]? = (l[k]?).map fun c => .int .u8 (c.toNat : Int) := by simp [bts]
theorem bts_append (a b : List UInt8) : bts (a ++ b) = bts a ++ bts b := by simp [bts]
theorem bts_take (l : List UInt8) (k : Nat) : bts (l.take k) = (bts l).take k := by simp [bts]
theorem bts_drop (l : List UInt8) (k : Nat) : bts (l.drop k) = (bts l).drop k := by simp [bts]
theorem bts_one (l : List UInt8) : ∀ u ∈ bts l, u.oneCell' = true := by
  intro u hu
  simp only [bts, List.mem_map] at hu
  obtain ⟨c, _, rfl⟩ := hu
  rfl
theorem Row.bt {l : List UInt8} (h : Row B w A n 1 (bts l)) {k : Nat} (hk : k < n) : ∃ a, ∃ hl : k < l.length, A = some a ∧ a.block < B ∧ w.cell? (a.add k) = some (.int .u8 ((l[k]).toNat : Int)) := by
  obtain ⟨a, v, e, b, hv, hc⟩ := h.at1 hk
  have hl : k < l.length := by have := h.len; rw [bts_length] at this; omega
  rw [bts_get, List.getElem?_eq_getElem hl] at hv
  injection hv with hv
  exact ⟨a, hl, e, b, by rw [hc, ← hv]⟩
theorem Row.btlen {l : List UInt8} (h : Row B w A n 1 (bts l)) : l.length = n := by have := h.len; rw [bts_length] at this; omega

theorem foldl_push (l : List UInt8) : ∀ s : ByteArray, (l.map fun c => (c.toNat : Int)).foldl (fun r n => r.push (UInt8.ofNat n.toNat)) s = ⟨s.data ++ l.toArray⟩ := by
  induction l with
  | nil => intro s; simp
  | cons c l ih =>
    intro s
    rw [List.map_cons, List.foldl_cons, ih]
    congr 1
    apply Array.toList_inj.1
    simp [ByteArray.push]
theorem Row.load {P : Program} {a : Addr} (h : Row B w (some a) n 1 xs) : (loadCells a n).run P w = .ok xs.toArray w := by
  have hl := h.len
  have := run_loadCells_list (P := P) (w := w) a xs h.cells
  rwa [show xs.length = n from by omega] at this
/-- string(b) -/
theorem conv_row {P : Program} {l : List UInt8} (src dst e : TypeId) (hs : P.underlying src = some (.slice e)) (he : P.underlying e = some (.int .u8)) (hd : P.underlying dst = some .string)
    (h : Row B w A n 1 (bts l)) (c : Nat) : (convert src dst (.slice A n c)).run P w = .ok (.string ⟨l.toArray⟩) w := by
  rw [run_convert_bytes_string w src dst e A n c hs he hd]
  have hl := h.btlen
  rcases A with _ | a
  · have hn : n = 0 := by
      rcases Nat.eq_zero_or_pos n with h0 | h0
      · exact h0
      · obtain ⟨_, _, he, _⟩ := h.bt h0
        cases he
    subst hn
    obtain rfl := List.eq_nil_of_length_eq_zero hl
    rfl
  · rw [run_bytesToString w a n c (l.map fun c => (c.toNat : Int)) (by rw [h.load]; simp [bts, Function.comp_def]), foldl_push]
    simp

end Go.Proofs.Ytfbollkafcdfhaa
