/-
  Words for memory, more: an append that tells where the row lies behind it; rows that an append leaves alone.
-/
import Derived.Test.YtfbollkafcdfhaaLevelK
import Derived.Test.YtfbollkafcdfhaaLevelG
import Derived.Test.YtfbollkafcdfhaaPlainPicks
namespace Go.Proofs.Ytfbollkafcdfhaa
open Go Go.RowKit

theorem wpList_appF {P : Program} {w : World} {ops : Array Oper} {rest : List Oper} {o : Oper} {a : Act} {Q : Exit → Act → World → Prop} (hgd : o.guard = none) (s x : Operand) (t : TypeId)
    (ho : o.op = .call { callee := .builtin .append, args := #[s, x], argTypes := #[t, t] })
    (base : Nat) (e : TypeId) (i : TypeInfo) (z : Value) (size bytes : Nat) (ht : P.underlying t = some (.slice e)) (hi : P.info? e = some i) (hz : i.zero = some z)
    (hsize : i.size = size) (hby : i.bytes = bytes) (hzs : z.cells.size = size) (hsz : 0 < size) (w0 : World) (hb : Below base w0 w) (hbase : base ≤ w.heap.size) (v : Value) (n : Nat) (xs : List Value) (hs : a.eval s = v) (hown : w.ownsRow base e size v n xs)
    (B : Nat) (A : Option Addr) (m c : Nat) (hm : 0 < m) (news : List Value) (hx : a.eval x = .slice A m c) (hr : Row B w A m size news) (h1 : ∀ u ∈ news, u.oneCell' = true)
    (N : Nat) (X : List Value) (hN : n + m = N) (hX : xs ++ news = X) (h63 : N ≤ maxLen) (hbytes : N * bytes ≤ 140737488355328)
    (h : ∀ A' c' w', w'.ownsRow base e size (.slice A' N c') N X → Below base w0 w' → w.grownBy w' v.ownBlock → N ≤ c' → c' ≤ maxLen → ((Value.slice A' N c').ownBlock = v.ownBlock ∨ (Value.slice A' N c').ownBlock = some w.heap.size) → wpList P ops Q rest (a.put o.dst (.slice A' N c')) w') : wpList P ops Q (o :: rest) a w := by
  subst hN
  subst hX
  have hpos : 0 < news.length := by
    rw [hr.len]
    exact Nat.mul_pos hm hsz
  obtain ⟨a', rfl, _⟩ := hr.some_ hpos
  obtain ⟨v', w', hrun, h3, h4, _, h6⟩ := run_append_own_at (P := P) (ty := o.type) w base t e i z size bytes ht hi hz hsize hby hzs hsz v n xs hown a' m c news hr.len hr.cells h1 h63 hbytes hbase
  obtain ⟨A', c', rfl, h5, h7, _⟩ := own_form h3
  refine wpList_plain hgd fun _ hK => ?_
  unfold Oper.wp execOp
  simp only [ho, resolve, invoke, builtin, Sem.run_bind, Sem.run_pure, Result.andThen_ok, List.map_toArray, List.map_cons, List.map_nil, hs, hx, hrun]
  exact hK _ _ (h A' c' w' h3 (below_own hb hown h4 hbase) h4 h5 h7 h6)
theorem Row.grow {B n size : Nat} {w w' : World} {A : Option Addr} {xs : List Value} {r : Option Nat} (h : Row B w A n size xs) (hg : w.grownBy w' r) (hne : ∀ a, A = some a → some a.block ≠ r) : Row B w' A n size xs :=
  ⟨h.len, fun j hj => let ⟨a, e, b, c⟩ := h.cell j hj; ⟨a, e, b, hg.cell c (by rw [add_block]; exact hne a e)⟩⟩
theorem row_key {w : World} {P i : Nat} (hi : i < 256) (h : w.cell? ⟨P, 0, none⟩ = some (.int .u8 (i : Int))) : Row w.heap.size w (some ⟨P, 0, none⟩) 1 1 (bts [UInt8.ofNat i]) := by
  apply row_one
  rw [h, UInt8.toNat_ofNat', Nat.mod_eq_of_lt (by omega)]
/-- The keys of a file lie well, and not where v lies. -/
structure Kept (w : World) (v : Value) (h : Hv) : Prop where
  ok : h.ok w.heap.size w
  fa : ∀ a, h.fa = some a → some a.block ≠ v.ownBlock ∧ a.block < w.heap.size
  la : ∀ a, h.la = some a → some a.block ≠ v.ownBlock ∧ a.block < w.heap.size
theorem Kept.step {w w' : World} {v v' : Value} {h : Hv} (k : Kept w v h) (hg : w.grownBy w' v.ownBlock) (hv : v'.ownBlock = v.ownBlock ∨ v'.ownBlock = some w.heap.size) : Kept w' v' h := by
  have key : ∀ a : Addr, some a.block ≠ v.ownBlock ∧ a.block < w.heap.size → some a.block ≠ v'.ownBlock ∧ a.block < w'.heap.size := by
    intro a ⟨h1, h2⟩
    refine ⟨?_, Nat.lt_of_lt_of_le h2 hg.size⟩
    rcases hv with hv | hv
    · rw [hv]; exact h1
    · rw [hv]
      intro e
      injection e with e
      omega
  exact ⟨⟨(k.ok.first.grow hg (fun a e => (k.fa a e).1)).up hg.size, (k.ok.last.grow hg (fun a e => (k.la a e).1)).up hg.size⟩, fun a e => key a (k.fa a e), fun a e => key a (k.la a e)⟩
theorem Kept.alloc {w : World} {v : Value} {h : Hv} (k : Kept w v h) (o : Obj) : Kept (w.alloc o) v h := by
  have hz : w.heap.size ≤ (w.alloc o).heap.size := by simp
  exact ⟨⟨(k.ok.first.alloc (Nat.le_refl _) o).up hz, (k.ok.last.alloc (Nat.le_refl _) o).up hz⟩, fun a e => ⟨(k.fa a e).1, Nat.lt_of_lt_of_le (k.fa a e).2 hz⟩, fun a e => ⟨(k.la a e).1, Nat.lt_of_lt_of_le (k.la a e).2 hz⟩⟩
theorem Kept.below {w w' : World} {v : Value} {h : Hv} (k : Kept w v h) (hb : Below w.heap.size w w') : Kept w' v h :=
  ⟨(k.ok.below hb).up hb.size, fun a e => ⟨(k.fa a e).1, Nat.lt_of_lt_of_le (k.fa a e).2 hb.size⟩, fun a e => ⟨(k.la a e).1, Nat.lt_of_lt_of_le (k.la a e).2 hb.size⟩⟩

/-- What LevelEnds lays at place k: a file of level 0. -/
def newE (w : World) (k : Nat) (e : Int) (a b : UInt8) : Hv := ⟨⟨(k : Int) + 1, 0, [a], [b], e⟩, some ⟨w.heap.size, 0, none⟩, 1, 1, some ⟨w.heap.size + 1, 0, none⟩, 1, 1⟩
def sumE (hs : List Hv) : Int := (hs.map fun h => h.hd.len).sum
theorem sumE_snoc (hs : List Hv) (x : Hv) : sumE (hs ++ [x]) = sumE hs + x.hd.len := by simp [sumE]
/-- k files of level 0, their numbers 1 to k, each of 1 to 64 items. -/
structure Begun (k : Nat) (hs : List Hv) : Prop where
  len : hs.length = k
  lev : ∀ h ∈ hs, h.hd.level = 0 ∧ 1 ≤ h.hd.len ∧ h.hd.len ≤ 64
  num : ∀ i, i < k → nm hs i = (i : Int) + 1
theorem Begun.step {k : Nat} {hs : List Hv} {x : Hv} (h : Begun k hs) (h1 : x.hd.level = 0) (h2 : 1 ≤ x.hd.len) (h3 : x.hd.len ≤ 64) (h4 : x.hd.num = (k : Int) + 1) : Begun (k + 1) (hs ++ [x]) := by
  refine ⟨by simp [h.len], fun y hy => ?_, fun i hi => ?_⟩
  · rcases List.mem_append.1 hy with hy | hy
    · exact h.lev y hy
    · obtain rfl := List.mem_singleton.1 hy
      exact ⟨h1, h2, h3⟩
  · unfold nm
    by_cases hik : i < k
    · have := h.num i hik
      unfold nm at this
      rw [getD_lt _ _ (by simp [h.len]; omega), List.getElem_append_left (by rw [h.len]; exact hik)]
      rw [getD_lt _ _ (by rw [h.len]; exact hik)] at this
      exact this
    · obtain rfl : i = k := by omega
      rw [getD_lt _ _ (by simp [h.len]), List.getElem_append_right (by rw [h.len]; exact Nat.le_refl _)]
      simp [h.len, h4]
theorem Begun.diff {k : Nat} {hs : List Hv} (h : Begun k hs) : Diff hs hs.length := by
  intro i j hi hj e
  rw [h.len] at hi
  rw [h.num i hi, h.num j (by omega)] at e
  omega
theorem Begun.sum {k : Nat} {hs : List Hv} (h : Begun k hs) : 0 ≤ sumE hs ∧ sumE hs ≤ 64 * k := by
  obtain ⟨h1, h2, h3⟩ := h
  clear h3
  subst h1
  induction hs with
  | nil => simp [sumE]
  | cons x l ih =>
    obtain ⟨g1, g2⟩ := ih (fun y hy => h2 y (List.mem_cons_of_mem _ hy))
    obtain ⟨_, g3, g4⟩ := h2 x List.mem_cons_self
    have e : sumE (x :: l) = x.hd.len + sumE l := by simp [sumE]
    rw [e, List.length_cons]
    omega
end Go.Proofs.Ytfbollkafcdfhaa
