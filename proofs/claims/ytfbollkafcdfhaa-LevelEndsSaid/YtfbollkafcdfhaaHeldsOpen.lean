/-
  A slice of files, as an argument brings it in, opened.
-/
import Derived.Test.YtfbollkafcdfhaaHelds
import Derived.Test.YtfbollkafcdfhaaOpeners
import Derived.Deep.Slices
import Derived.Deep.Fields
import Derived.ChangeSame
import Derived.ChangeArms
import Derived.DataReads
import Derived.OpenShut
namespace Go.Proofs.Ytfbollkafcdfhaa
open Go Go.RowKit Go.ChangeShapes Go.WideShapes Go.Deep

def HeldsE (B : Nat) (w : World) (A : Option Addr) (n : Nat) : Prop := ∃ hs, Helds B w A n hs

section
variable {H : Type} {enc : TypeId × Value → H} {P : Program} {w : World} {base : Nat} {spare : Nat → Bool} {held : Bool}
theorem open_slice_fields {t e : TypeId} {fs : Array Field} {fuel : Nat} {cs : List Value} {x : DataW H × List MemPlace} (ht : P.underlying t = some (.slice e)) (he : P.underlying e = some (.struct fs))
    (hone : oneCellFields P fs = true) (hC : P.cellsOf e = fs.size) (h : DataW.trod enc P w base spare held fuel t cs = some x) :
    cs = [.slice none 0 0] ∨
    ∃ (a : Addr) (len cap m : Nat), cs = [.slice (some a) len cap] ∧ len ≤ cap ∧ cap ≤ maxLen ∧ m = (if spare a.block then cap else len) ∧
      ∀ i, i < m → ∃ (ys : List (DataW H × List MemPlace)) (n : Nat),
        ∀ (j : Nat) (f : Field), fs[j]? = some f → ∃ (v : Value) (y : DataW H × List MemPlace), w.cell? (a.add (i * fs.size + j)) = some v ∧ ys[j]? = some y ∧ DataW.trod enc P w base spare held n f.type [v] = some y := by
  rcases open_slice ht h with ⟨h0, _⟩ | ⟨a, len, cap, m, n, D, Pl, hcs, hb, hl, hm, hmm, hx, hi⟩
  · exact .inl h0
  · refine .inr ⟨a, len, cap, m, hcs, hl, hm, hmm, fun i him => ?_⟩
    obtain ⟨cs', hc, ht'⟩ := hi i him
    rw [hC] at hc
    obtain ⟨ys, n', hn', hy, hlen, hyl, hf⟩ := DataW.trod_struct he ht'
    obtain ⟨_, hcl, hat⟩ := World.cells?_some hc
    refine ⟨ys, n', fun j f hj => ?_⟩
    obtain ⟨ho, hk⟩ := hone_of hone j f hj
    have hjl : j < fs.size := (Array.getElem?_eq_some_iff.1 hj).1
    have hcell := hat j hjl
    have hv : cs'[j]? = some (cs'[j]'(by omega)) := List.getElem?_eq_getElem (by omega)
    have h1 := hf j f hj
    rw [ho, hk] at h1
    have hone' : (cs'.drop j).take 1 = [cs'[j]'(by omega)] := by
      rw [List.drop_eq_getElem_cons (by omega)]
      rfl
    rw [hone'] at h1
    have hys : ys[j]? = some (ys[j]'(by omega)) := List.getElem?_eq_getElem (by omega)
    refine ⟨_, _, ?_, hys, h1.trans hys⟩
    rw [← Go.Deep.add_add, hcell, hv]
end
theorem bytes_of {H : Type} {enc : TypeId × Value → H} {W : World} {base : Nat} {spare : Nat → Bool} {held : Bool} {fuel : Nat} {v : Value} {x : DataW H × List MemPlace}
    (h : DataW.trod enc Try.prog W base spare held fuel 25 [v] = some x) : ∃ (a : Option Addr) (n c : Nat) (l : List UInt8), v = .slice a n c ∧ Row W.heap.size W a n 1 (bts l) := by
  rcases open_ints Try.underlying25 Try.underlying5 (by kernel_rfl) h with ⟨hcs, _⟩ | ⟨a, l, c, zs, hcs, _, hl, hm, hz, _, hcell, hwz⟩
  · simp at hcs
    subst hcs
    exact ⟨none, 0, 0, [], rfl, Row.nil_⟩
  · simp at hcs
    subst hcs
    obtain ⟨l', _, _, hr⟩ := row_of (w := W) (a := some a) (len := l) (cap := zs.length) (zs := zs) (.inr ⟨a, rfl, by rw [hz]; split <;> omega, by rw [hz]; split <;> omega, rfl, hcell, hwz⟩)
    exact ⟨_, _, _, l', rfl, hr⟩
theorem helds_of {H : Type} {enc : TypeId × Value → H} {W : World} {base : Nat} {spare : Nat → Bool} {held : Bool} {fuel : Nat} {A : Option Addr} {len cap : Nat} {x : DataW H × List MemPlace}
    (h : DataW.trod enc Try.prog W base spare held fuel 22 (Value.slice A len cap).cells.toList = some x) : len ≤ cap ∧ cap ≤ maxLen ∧ HeldsE W.heap.size W A len := by
  rcases open_slice_fields Try.underlying22 Try.underlying27 (by kernel_rfl) (by kernel_rfl) h with hcs | ⟨a, l, c, m, hcs, hl, hm, hmm, hx⟩
  · simp [Value.cells] at hcs
    obtain ⟨rfl, rfl, rfl⟩ := hcs
    exact ⟨Nat.le_refl _, Nat.zero_le _, [], rfl, Row.nil_, fun _ h => by cases h⟩
  · simp [Value.cells] at hcs
    obtain ⟨rfl, rfl, rfl⟩ := hcs
    refine ⟨hl, hm, ?_⟩
    have hlm : len ≤ m := by subst hmm; split <;> omega
    have key : ∀ i, i < len → ∃ y : Hv, a.block < W.heap.size ∧ (∀ j v, y.cs[j]? = some v → W.cell? (a.add (i * 5 + j)) = some v) ∧ y.ok W.heap.size W := by
      intro i hi
      obtain ⟨ys, n, hf⟩ := hx i (by omega)
      obtain ⟨v0, y0, h0, _, t0⟩ := hf 0 _ rfl
      obtain ⟨v1, y1, h1, _, t1⟩ := hf 1 _ rfl
      obtain ⟨v2, y2, h2, _, t2⟩ := hf 2 _ rfl
      obtain ⟨v3, y3, h3, _, t3⟩ := hf 3 _ rfl
      obtain ⟨v4, y4, h4, _, t4⟩ := hf 4 _ rfl
      obtain ⟨z0, e0, _, _⟩ := DataW.trod_int Try.underlying3 t0
      obtain ⟨z1, e1, _, _⟩ := DataW.trod_int Try.underlying3 t1
      obtain ⟨z4, e4, _, _⟩ := DataW.trod_int Try.underlying3 t4
      obtain ⟨fa, fn, fc, fl, e2, r2⟩ := bytes_of t2
      obtain ⟨la, ln, lc, ll, e3, r3⟩ := bytes_of t3
      simp at e0 e1 e4
      subst e0 e1 e2 e3 e4
      have hb : a.block < W.heap.size := by
        have := World.block_lt_of_cell? W _ h0
        rwa [add_block] at this
      refine ⟨⟨⟨z0, z1, fl, ll, z4⟩, fa, fn, fc, la, ln, lc⟩, hb, ?_, ⟨r2, r3⟩⟩
      intro j v hv
      match j, hv with
      | 0, hv => simp [Hv.cs] at hv; subst hv; exact h0
      | 1, hv => simp [Hv.cs] at hv; subst hv; exact h1
      | 2, hv => simp [Hv.cs] at hv; subst hv; exact h2
      | 3, hv => simp [Hv.cs] at hv; subst hv; exact h3
      | 4, hv => simp [Hv.cs] at hv; subst hv; exact h4
      | j + 5, hv => simp [Hv.cs] at hv
    clear hx h
    have build : ∀ n, n ≤ len → ∃ hs, Helds W.heap.size W (some a) n hs := by
      intro n
      induction n with
      | zero => exact fun _ => ⟨[], rfl, ⟨rfl, fun j hj => absurd hj (by simp)⟩, fun _ h => by cases h⟩
      | succ n ih =>
        intro hn
        obtain ⟨hs, h1, h2, h3⟩ := ih (by omega)
        obtain ⟨y, hb, hy, hok⟩ := key n (by omega)
        refine ⟨hs ++ [y], by simp [h1], ⟨by rw [flat_length]; simp [h1], fun j hj => ⟨a, rfl, hb, ?_⟩⟩, fun x hx => ?_⟩
        · have hfl := flat_length hs
          have e : (hs ++ [y]).flatMap Hv.cs = hs.flatMap Hv.cs ++ y.cs := by simp
          have hj' : ((hs ++ [y]).flatMap Hv.cs)[j]? = some ((hs ++ [y]).flatMap Hv.cs)[j] := List.getElem?_eq_getElem hj
          rw [← hj', e]
          rw [e, List.length_append] at hj
          by_cases hc : j < (hs.flatMap Hv.cs).length
          · rw [List.getElem?_append_left hc]
            obtain ⟨a', ea, _, hcell⟩ := h2.cell j hc
            obtain rfl : a = a' := by simpa using ea
            rw [hcell, List.getElem?_eq_getElem hc]
          · rw [List.getElem?_append_right (by omega)]
            have hlt : j - (hs.flatMap Hv.cs).length < y.cs.length := by omega
            rw [List.getElem?_eq_getElem hlt]
            have := hy (j - (hs.flatMap Hv.cs).length) _ (List.getElem?_eq_getElem hlt)
            rwa [show n * 5 + (j - (hs.flatMap Hv.cs).length) = j from by omega] at this
        · rcases List.mem_append.1 hx with hx | hx
          · exact h3 x hx
          · obtain rfl := List.mem_singleton.1 hx
            exact hok
    exact build len (Nat.le_refl _)
end Go.Proofs.Ytfbollkafcdfhaa
