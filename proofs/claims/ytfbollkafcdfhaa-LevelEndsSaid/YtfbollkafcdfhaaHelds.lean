/-
  A slice of files (api.Held: five cells each, two of them slices of bytes), as the levels read it.
-/
import Derived.Test.YtfbollkafcdfhaaLevelA
namespace Go.Proofs.Ytfbollkafcdfhaa
open Go Go.RowKit

theorem later {B : Nat} {w X w1 : World} (hB : B ≤ w.heap.size) (h : Below B w X) (h1 : Below X.heap.size X w1) : Below B w w1 := h.trans (h1.mono (Nat.le_trans hB h.size))
theorem later_ {w X w1 : World} (h : Below w.heap.size w X) (h1 : Below X.heap.size X w1) : Below w.heap.size w w1 := later (Nat.le_refl _) h h1
theorem below_drew {B : Nat} {w X : World} (h : Below B w X) : Below B w X.drew := ⟨h.os, h.tape, h.output, h.size, h.block⟩
/-- A file as it lies in memory: what it says, and where its two keys lie. -/
structure Hv where
  hd : Hd
  fa : Option Addr
  fn : Nat
  fc : Nat
  la : Option Addr
  ln : Nat
  lc : Nat
def Hv.cs (h : Hv) : List Value := [.int .i64 h.hd.num, .int .i64 h.hd.level, .slice h.fa h.fn h.fc, .slice h.la h.ln h.lc, .int .i64 h.hd.len]
structure Hv.ok (h : Hv) (B : Nat) (w : World) : Prop where
  first : Row B w h.fa h.fn 1 (bts h.hd.first)
  last : Row B w h.la h.ln 1 (bts h.hd.last)
theorem Hv.ok.below {h : Hv} {B : Nat} {w w' : World} (k : h.ok B w) (hb : Below B w w') : h.ok B w' := ⟨k.first.below hb, k.last.below hb⟩
theorem Hv.ok.up {h : Hv} {B B' : Nat} {w : World} (k : h.ok B w) (hb : B ≤ B') : h.ok B' w := ⟨k.first.up hb, k.last.up hb⟩
theorem Hv.ok.keep {h : Hv} {B : Nat} {w w' : World} (k : h.ok B w) (hk : ∀ p : Addr, p.block < B → w'.cell? p = w.cell? p) : h.ok B w' := ⟨k.first.keep hk, k.last.keep hk⟩
/-- The slice of n files at A reads as hs, all below block B. -/
structure Helds (B : Nat) (w : World) (A : Option Addr) (n : Nat) (hs : List Hv) : Prop where
  len : hs.length = n
  row : Row B w A n 5 (hs.flatMap Hv.cs)
  ok : ∀ h ∈ hs, h.ok B w
variable {B B' n : Nat} {w w' : World} {A : Option Addr} {hs : List Hv}
theorem Helds.below (h : Helds B w A n hs) (hb : Below B w w') : Helds B w' A n hs := ⟨h.len, h.row.below hb, fun x hx => (h.ok x hx).below hb⟩
theorem Helds.up (h : Helds B w A n hs) (hb : B ≤ B') : Helds B' w A n hs := ⟨h.len, h.row.up hb, fun x hx => (h.ok x hx).up hb⟩
theorem Helds.keep (h : Helds B w A n hs) (hk : ∀ p : Addr, p.block < B → w'.cell? p = w.cell? p) : Helds B w' A n hs := ⟨h.len, h.row.keep hk, fun x hx => (h.ok x hx).keep hk⟩
theorem flat_get : ∀ (hs : List Hv) (k j : Nat) (hk : k < hs.length), j < 5 → (hs.flatMap Hv.cs)[k * 5 + j]? = (hs[k].cs)[j]?
  | h :: t, 0, j, _, hj => by
    rw [List.flatMap_cons, List.getElem?_append_left (by simp [Hv.cs]; omega)]
    simp
  | h :: t, k + 1, j, hk, hj => by
    rw [List.flatMap_cons, List.getElem?_append_right (by simp [Hv.cs]; omega)]
    have : (k + 1) * 5 + j - h.cs.length = k * 5 + j := by simp [Hv.cs]; omega
    rw [this, flat_get t k j (by simpa using hk) hj]
    simp
theorem flat_length (hs : List Hv) : (hs.flatMap Hv.cs).length = hs.length * 5 := by
  induction hs with
  | nil => rfl
  | cons h t ih => rw [List.flatMap_cons, List.length_append, ih]; simp [Hv.cs]; omega
theorem flat_take (hs : List Hv) (k : Nat) : (hs.take k).flatMap Hv.cs = (hs.flatMap Hv.cs).take (k * 5) := by
  induction hs generalizing k with
  | nil => simp
  | cons h t ih =>
    cases k with
    | zero => simp
    | succ k =>
      have e : h.cs.length = 5 := rfl
      rw [List.take_succ_cons, List.flatMap_cons, List.flatMap_cons, ih, List.take_append, List.take_of_length_le (l := h.cs) (by omega), e, show (k + 1) * 5 - 5 = k * 5 from by omega]
/-- The file at place k: where its cells lie, as the walk reads them. -/
structure At (B : Nat) (w : World) (a : Addr) (k : Nat) (h : Hv) : Prop where
  blk : a.block < B
  c0 : w.cell? (a.add (k * 5)) = some (.int .i64 h.hd.num)
  c1 : w.cell? ⟨(a.add (k * 5)).block, (a.add (k * 5)).off + 1, none⟩ = some (.int .i64 h.hd.level)
  c2 : w.cell? ⟨(a.add (k * 5)).block, (a.add (k * 5)).off + 2, none⟩ = some (.slice h.fa h.fn h.fc)
  c3 : w.cell? ⟨(a.add (k * 5)).block, (a.add (k * 5)).off + 3, none⟩ = some (.slice h.la h.ln h.lc)
  c4 : w.cell? ⟨(a.add (k * 5)).block, (a.add (k * 5)).off + 4, none⟩ = some (.int .i64 h.hd.len)
theorem add_at (a : Addr) (k : Nat) {j : Nat} (hj : 0 < j) : a.add (k + j) = ⟨(a.add k).block, (a.add k).off + j, none⟩ := by
  rw [← add_twice, Addr.add, if_neg (by omega)]
/-- The cells of the files alone: of their keys nothing is said. -/
structure HRow (B : Nat) (w : World) (A : Option Addr) (n : Nat) (hs : List Hv) : Prop where
  len : hs.length = n
  row : Row B w A n 5 (hs.flatMap Hv.cs)
theorem Helds.hrow (h : Helds B w A n hs) : HRow B w A n hs := ⟨h.len, h.row⟩
theorem HRow.below (h : HRow B w A n hs) (hb : Below B w w') : HRow B w' A n hs := ⟨h.len, h.row.below hb⟩
theorem HRow.up (h : HRow B w A n hs) (hb : B ≤ B') : HRow B' w A n hs := ⟨h.len, h.row.up hb⟩
theorem HRow.at_ (h : HRow B w A n hs) {k : Nat} (hk : k < n) : ∃ a, ∃ hl : k < hs.length, A = some a ∧ At B w a k hs[k] := by
  have hl : k < hs.length := by have := h.len; omega
  have hlen := flat_length hs
  have g : ∀ j v, j < 5 → hs[k].cs[j]? = some v → ∃ a, A = some a ∧ a.block < B ∧ w.cell? (a.add (k * 5 + j)) = some v := by
    intro j v hj hv
    have hx : k * 5 + j < (hs.flatMap Hv.cs).length := by omega
    obtain ⟨a, e, b, c⟩ := h.row.cell (k * 5 + j) hx
    refine ⟨a, e, b, c.trans ?_⟩
    rw [← List.getElem?_eq_getElem hx, flat_get hs k j hl hj, hv]
  obtain ⟨a, rfl, hb, c0⟩ := g 0 _ (by omega) rfl
  have g' : ∀ j v, 0 < j → j < 5 → hs[k].cs[j]? = some v → w.cell? ⟨(a.add (k * 5)).block, (a.add (k * 5)).off + j, none⟩ = some v := by
    intro j v h0 hj hv
    obtain ⟨a', e, _, c⟩ := g j v hj hv
    obtain rfl : a = a' := by simpa using e
    rwa [add_at a _ h0] at c
  exact ⟨a, hl, rfl, ⟨hb, c0, g' 1 _ (by omega) (by omega) rfl, g' 2 _ (by omega) (by omega) rfl, g' 3 _ (by omega) (by omega) rfl, g' 4 _ (by omega) (by omega) rfl⟩⟩
theorem Helds.at_ (h : Helds B w A n hs) {k : Nat} (hk : k < n) : ∃ a, ∃ hl : k < hs.length, A = some a ∧ At B w a k hs[k] ∧ hs[k].ok B w := by
  obtain ⟨a, hl, e, hat⟩ := h.hrow.at_ hk
  exact ⟨a, hl, e, hat, h.ok _ (List.getElem_mem hl)⟩
end Go.Proofs.Ytfbollkafcdfhaa
