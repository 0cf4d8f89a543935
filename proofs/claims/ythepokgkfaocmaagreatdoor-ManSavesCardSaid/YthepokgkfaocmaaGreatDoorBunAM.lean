/- Texts RefV, Openers, FilesOpen, Same, Unlist in one. No conditions. -/
import Derived.Test.YthepokgkfaocmaaGreatDoorBunAJ
import Derived.BigQuiet
import Derived.Test.YthepokgkfaocmaaGreatDoorBunAA
import Derived.Deep.Slices
import Derived.Deep.Fields
import Derived.Lib.SmallJoins
import Derived.ChangeSame
import Derived.ChangeArms
import Derived.DataReads
import Derived.OpenShut
import Derived.Test.YthepokgkfaocmaaGreatDoorBunAC

/-
  The walk of the reference's ViewOk, for any View.
-/
namespace Go.Proofs.YthepokgkfaocmaaGreatDoor
open Go Go.RowKit

theorem fileok_any (f : Int × Int) (w : World) : Calls Tryz.prog 54 #[.agg #[.int .i64 f.1, .int .i64 f.2]] w fun e w' => e = .returned (.bool (isFile f)) ∧ Below w.heap.size w w' := by
  obtain ⟨l, n⟩ := f
  obtain ⟨b, hb⟩ : ∃ b, b = isFile (l, n) := ⟨_, rfl⟩
  rw [← hb]
  unfold isFile isNum at hb
  simp only at hb ⊢
  have hb0 := (Below.refl w.heap.size w).alloc (Nat.le_refl _) (.cells #[.int .i64 l, .int .i64 n] 114)
  by_cases h1 : 0 ≤ l
  · by_cases h2 : l ≤ 3
    · by_cases h3 : 1 ≤ n
      · by_cases h4 : n ≤ 1073741824
        · have HB := Lib.hid (hb.trans (show _ = true by simp [h1, h2, h3, h4]))
          clear hb
          go_enter Tryz.func54, Tryz.ntmps54
          go_wp2
          go_ret
          exact ⟨ret_b HB.out.symm, hb0⟩
        · have HB := Lib.hid (hb.trans (show _ = false by simp [h4]))
          clear hb
          go_enter Tryz.func54, Tryz.ntmps54
          go_wp2
          go_ret
          exact ⟨ret_b HB.out.symm, hb0⟩
      · have HB := Lib.hid (hb.trans (show _ = false by simp [h3]))
        clear hb
        go_enter Tryz.func54, Tryz.ntmps54
        go_wp2
        go_ret
        exact ⟨ret_b HB.out.symm, hb0⟩
    · have HB := Lib.hid (hb.trans (show _ = false by simp [h2]))
      clear hb
      go_enter Tryz.func54, Tryz.ntmps54
      go_wp2
      go_ret
      exact ⟨ret_b HB.out.symm, hb0⟩
  · have HB := Lib.hid (hb.trans (show _ = false by simp [h1]))
    clear hb
    go_enter Tryz.func54, Tryz.ntmps54
    go_wp2
    go_ret
    exact ⟨ret_b HB.out.symm, hb0⟩

theorem any_no {fs : List (Int × Int)} {m : Int} {j : Nat} : (fs.take j).any (fun g => g.2 == m) = false ↔ ∀ i (h : i < fs.length), i < j → (fs[i]).2 ≠ m := by
  rw [List.any_eq_false]
  constructor
  · intro h i hi hij
    have := h fs[i] (List.mem_take_iff_getElem.2 ⟨i, by omega, rfl⟩)
    simpa using this
  · intro h g hg
    obtain ⟨i, hi, rfl⟩ := List.mem_take_iff_getElem.1 hg
    simpa using h i (by omega) (by omega)

set_option maxRecDepth 100000 in
set_option maxHeartbeats 4000000 in
theorem viewok_any (v : Vw) (A : Option Addr) (n c : Nat) (w : World) (hn : n ≤ 1000000) (hr : Row w.heap.size w A n 2 (fcells v.files)) :
    Calls Tryz.prog 25 #[v.val A n c] w fun e w' => e = .returned (.bool v.ok) ∧ Below w.heap.size w w' := by
  obtain ⟨g, fs, f, ce, a, l⟩ := v
  obtain ⟨b, hb⟩ : ∃ b, b = Vw.ok ⟨g, fs, f, ce, a, l⟩ := ⟨_, rfl⟩
  have hfl := hr.flen
  rw [← hb]
  unfold Vw.ok at hb
  simp only at hb hr hfl
  rw [hfl, Bool.and_assoc _ _ (apart fs)] at hb
  unfold Vw.val
  simp only
  have hbl := (Below.refl w.heap.size w).alloc (Nat.le_refl _) (.cells #[.int .i64 g, .slice A n c, .int .u64 (f : Int), .int .u64 (ce : Int), .int .u64 (a : Int), .int .u64 (l : Int)] 31)
  have bad : b = false → True := fun _ => trivial
  by_cases h1 : g < 1
  · have HB := Lib.hid (hb.trans (show _ = false by simp [isNum]; omega))
    clear hb hfl hr
    go_enter Tryz.func25, Tryz.ntmps25
    go_wp2
    go_ret
    exact ⟨ret_b HB.out.symm, hbl⟩
  by_cases h2 : 1073741824 < g
  · have HB := Lib.hid (hb.trans (show _ = false by simp [isNum]; omega))
    clear hb hfl hr
    go_enter Tryz.func25, Tryz.ntmps25
    go_wp2
    go_ret
    exact ⟨ret_b HB.out.symm, hbl⟩
  by_cases h3 : 40 < n
  · have e3 : (40 : Int) < (n : Int) := by omega
    have HB := Lib.hid (hb.trans (show _ = false by simp; omega))
    clear hb hfl hr
    go_enter Tryz.func25, Tryz.ntmps25
    go_wp2
    go_ret
    exact ⟨ret_b HB.out.symm, hbl⟩
  have e3 : ((40 : Int) < (n : Int)) = False := by simp; omega
  by_cases h4 : 281474976710656 < f
  · have e4 : (281474976710656 : Int) < (f : Int) := by omega
    have HB := Lib.hid (hb.trans (show _ = false by simp [four4]; omega))
    clear hb hfl hr
    go_enter Tryz.func25, Tryz.ntmps25
    go_wp2
    go_ret
    exact ⟨ret_b HB.out.symm, hbl⟩
  have e4 : ((281474976710656 : Int) < (f : Int)) = False := by simp; omega
  by_cases h5 : 281474976710656 < ce
  · have e5 : (281474976710656 : Int) < (ce : Int) := by omega
    have HB := Lib.hid (hb.trans (show _ = false by simp [four4]; omega))
    clear hb hfl hr
    go_enter Tryz.func25, Tryz.ntmps25
    go_wp2
    go_ret
    exact ⟨ret_b HB.out.symm, hbl⟩
  have e5 : ((281474976710656 : Int) < (ce : Int)) = False := by simp; omega
  by_cases h6 : 281474976710656 < a
  · have e6 : (281474976710656 : Int) < (a : Int) := by omega
    have HB := Lib.hid (hb.trans (show _ = false by simp [four4]; omega))
    clear hb hfl hr
    go_enter Tryz.func25, Tryz.ntmps25
    go_wp2
    go_ret
    exact ⟨ret_b HB.out.symm, hbl⟩
  have e6 : ((281474976710656 : Int) < (a : Int)) = False := by simp; omega
  by_cases h7 : 281474976710656 < l
  · have e7 : (281474976710656 : Int) < (l : Int) := by omega
    have HB := Lib.hid (hb.trans (show _ = false by simp [four4]; omega))
    clear hb hfl hr
    go_enter Tryz.func25, Tryz.ntmps25
    go_wp2
    go_ret
    exact ⟨ret_b HB.out.symm, hbl⟩
  have e7 : ((281474976710656 : Int) < (l : Int)) = False := by simp; omega
  have hgd := files_good fs
  have hbb : b = (fs.all isFile && apart fs) := by
    have x1 : isNum g = true := by simp [isNum]; omega
    have x2 : decide (n ≤ 40) = true := by simp; omega
    have x3 : four4 f ce a l = true := by simp [four4]; omega
    rw [hb, x1, x2, x3]
    simp
  rw [← hbb] at hgd
  have HG := Lib.hid hgd
  have hbx0 := BoxO.new w #[.int .i64 g, .slice A n c, .int .u64 (f : Int), .int .u64 (ce : Int), .int .u64 (a : Int), .int .u64 (l : Int)] 31
  clear hb hgd hbb bad h4 h5 h6 h7 h3
  go_enter Tryz.func25, Tryz.ntmps25
  go_wp2
  go_loopw [3] (fun i wr => ∃ k : Nat, k ≤ n ∧ i = .int .i64 (k : Int) ∧ Hid (∀ j (h : j < fs.length), j < k → isFile fs[j] = true ∧ (fs.take j).any (fun g => g.2 == (fs[j]).2) = false) ∧
    BoxO wr 31 w.heap.size [.int .i64 g, .slice A n c, .int .u64 (f : Int), .int .u64 (ce : Int), .int .u64 (a : Int), .int .u64 (l : Int)] ∧ Below w.heap.size w wr) (fun i _ => n - (intOf i).toNat)
  case atStart => exact ⟨0, Nat.zero_le _, rfl, Lib.hid (fun j h hj => by omega), hbx0, hbl⟩
  case round =>
    obtain ⟨k, hk, rfl, hgd, hBx, hblr⟩ := hrel
    clear hbx0 hbl
    have q1 := hBx.cell 1
    simp only [List.getElem?_cons_zero, List.getElem?_cons_succ] at q1
    by_cases hlt : k < n
    · obtain ⟨ad, hl, rfl, hbk, c0, c1⟩ := (hr.below hblr).file hlt
      have hbad1 : isFile fs[k] = false → b = false := fun h => by
        cases b with
        | false => rfl
        | true => have := (HG.out.1 rfl k hl).1; rw [h] at this; cases this
      have hbad2 : ∀ i (hi : i < fs.length), i < k → (fs[i]).2 = (fs[k]).2 → b = false := fun i hi hik h => by
        cases b with
        | false => rfl
        | true => exact absurd h (any_no.1 (HG.out.1 rfl k hl).2 i hi hik)
      have hnext : isFile fs[k] = true → (∀ i (hi : i < fs.length), i < k → (fs[i]).2 ≠ (fs[k]).2) → ∀ j (h : j < fs.length), j < k + 1 → isFile fs[j] = true ∧ (fs.take j).any (fun g => g.2 == (fs[j]).2) = false := fun e1 e2 j hj hjk => by
        rcases Nat.lt_or_ge j k with h | h
        · exact hgd.out j hj h
        · obtain rfl : j = k := by omega
          exact ⟨e1, any_no.2 e2⟩
      have hfo := fun W => fileok_any fs[k] W
      generalize hfe : fs[k] = fk at *
      obtain ⟨f0, f1⟩ := fk
      have HFE := Lib.hid hfe
      clear hfe
      have H1 := Lib.hid hbad1
      have H2 := Lib.hid hbad2
      have H3 := Lib.hid hnext
      clear hbad1 hbad2 hnext hgd HG
      simp only at c0 c1
      cases hfk : isFile (f0, f1) with
      | false =>
        rw [hfk] at hfo
        have HB := Lib.hid (H1.out hfk)
        clear hfk H1 H2 H3
        go_wp2_with fail
        refine (hfo _).mono ?_
        rintro e w2 ⟨rfl, hb2⟩
        have hbz := later_ hblr hb2
        clear hb2 hBx q1
        go_wp2
        go_ret
        exact ⟨ret_b HB.out.symm, hbz⟩
      | true =>
        rw [hfk] at hfo
        have H4 := Lib.hid (H3.out hfk)
        clear hfk H1 H3
        go_wp2_with fail
        refine (hfo _).mono ?_
        rintro e w2 ⟨rfl, hb2⟩
        have hbz := later_ hblr hb2
        have hBx2 := hBx.below hb2
        have hr2 := (hr.below hbz)
        obtain ⟨ad', hl', he', hbk', c0, c1⟩ := hr2.file hlt
        rw [show fs[k] = (f0, f1) from HFE.out] at c0 c1
        clear HFE
        simp only at c0 c1
        injection he' with he'
        subst he'
        clear hfo hb2 hBx q1 hr
        have q1 := hBx2.cell 1
        simp only [List.getElem?_cons_zero, List.getElem?_cons_succ] at q1
        go_wp2
        go_loopw [4] (fun j wr2 => ∃ i q : Nat, i ≤ k ∧ j = .int .i64 (i : Int) ∧ Hid (∀ t (ht : t < fs.length), t < i → (fs[t]).2 ≠ f1) ∧ wr2 = w2.drewN q) (fun j _ => k - (intOf j).toNat)
        case atStart => exact ⟨0, 0, Nat.zero_le _, rfl, Lib.hid (fun t ht h => by omega), rfl⟩
        case round =>
          obtain ⟨i, q, hi, rfl, hgi, rfl⟩ := hrel
          by_cases hlt2 : i < k
          · obtain ⟨ad2, hl2, he2, hbk2, d0, d1⟩ := hr2.file (k := i) (by omega)
            injection he2 with he2
            subst he2
            have hb2' := H2.out i hl2 hlt2
            have hn2 : (fs[i]).2 ≠ f1 → ∀ t (ht : t < fs.length), t < i + 1 → (fs[t]).2 ≠ f1 := fun e t ht h => by
              rcases Nat.lt_or_ge t i with h1 | h1
              · exact hgi.out t ht h1
              · obtain rfl : t = i := by omega
                exact e
            generalize fs[i] = x at *
            obtain ⟨x0, x1⟩ := x
            simp only at d0 d1 hb2' hn2
            have H6 := Lib.hid hb2'
            have H7 := Lib.hid hn2
            have hin : i < n := by omega
            clear hb2' hn2 hgi H4 H2 hBx2 hr2 hl2
            by_cases hx : x1 = f1
            · have HB := Lib.hid (H6.out hx)
              subst hx
              go_wp2_with fail
              go_quiet (fail)
              go_wp2
              go_ret
              exact ⟨ret_b HB.out.symm, below_drewN (below_drewN hbz q) _⟩
            · have H8 := Lib.hid (H7.out hx)
              go_wp2_with fail
              go_quiet (fail)
              go_wp2
              go_roundw
              case rel => exact ⟨i + 1, _, by omega, by go_num, H8, rfl⟩
              case measure => simp [intOf]; omega
          · obtain rfl : k = i := by omega
            have H5 := Lib.hid (H4.out hgi.out)
            clear H4 H2 hgi hr2
            go_wp2
            go_roundw
            case rel => exact ⟨k + 1, by omega, by go_num, H5, hBx2.drewN q, below_drewN hbz q⟩
            case measure => simp [intOf]; omega
    · have hfin : b = true := HG.out.2 (fun j h => hgd.out j h (by omega))
      have HF := Lib.hid hfin
      clear hfin hgd HG
      go_wp2
      go_ret
      exact ⟨ret_b HF.out.symm, hblr⟩
end Go.Proofs.YthepokgkfaocmaaGreatDoor

/-
  From a law's arguments, as the row's frame hands them over, to the words that the walks use.
-/
namespace Go.Proofs.YthepokgkfaocmaaGreatDoor
open Go Go.RowKit

theorem u8_of {a : Int} (h : (Lit.int .u8 a).wf = true) : 0 ≤ a ∧ a ≤ 255 := by
  simp [Lit.wf, IntKind.min, IntKind.max, IntKind.signed, IntKind.bits] at h
  omega
theorem byte_of {a : Int} (h : (Lit.int .u8 a).wf = true) : ∃ x : UInt8, a = (x.toNat : Int) := by
  have := u8_of h
  refine ⟨UInt8.ofNat a.toNat, ?_⟩
  rw [UInt8.toNat_ofNat']
  omega
theorem u32_of {a : Int} (h : (Lit.int .u32 a).wf = true) : ∃ x : BitVec 32, a = (x.toNat : Int) := by
  simp [Lit.wf, IntKind.min, IntKind.max, IntKind.signed, IntKind.bits] at h
  refine ⟨BitVec.ofNat 32 a.toNat, ?_⟩
  rw [BitVec.toNat_ofNat, Nat.mod_eq_of_lt (by omega)]
  omega
theorem u64_of {a : Int} (h : (Lit.int .u64 a).wf = true) : ∃ x : BitVec 64, a = (x.toNat : Int) := by
  simp [Lit.wf, IntKind.min, IntKind.max, IntKind.signed, IntKind.bits] at h
  refine ⟨BitVec.ofNat 64 a.toNat, ?_⟩
  rw [BitVec.toNat_ofNat, Nat.mod_eq_of_lt (by omega)]
  omega
theorem i64_of {a : Int} (h : (Lit.int .i64 a).wf = true) : -9223372036854775808 ≤ a ∧ a ≤ 9223372036854775807 := by
  simp [Lit.wf, IntKind.min, IntKind.max, IntKind.signed, IntKind.bits] at h
  omega
theorem row_of {w : World} {a : Option Addr} {len cap : Nat} {zs : List Int}
    (h : (a = none ∧ len = 0 ∧ cap = 0 ∧ zs = []) ∨ ∃ x, a = some x ∧ len ≤ cap ∧ cap ≤ maxLen ∧ zs.length = cap ∧ (∀ i, i < zs.length → w.cell? (x.add i) = some (.int .u8 (zs.getD i 0))) ∧ ∀ n ∈ zs, (Lit.int .u8 n).wf = true) :
    ∃ l : List UInt8, len ≤ cap ∧ cap ≤ maxLen ∧ Row w.heap.size w a len 1 (bts l) := by
  rcases h with ⟨rfl, rfl, rfl, rfl⟩ | ⟨x, rfl, hl, hm, hz, hc, hw⟩
  · exact ⟨[], Nat.le_refl _, Nat.zero_le _, Row.nil_⟩
  · have e : bts ((zs.take len).map fun n => UInt8.ofNat n.toNat) = (zs.take len).map (Value.int .u8) := by
      unfold bts
      rw [List.map_map]
      apply List.map_congr_left
      intro n hn
      have := u8_of (hw n (List.mem_of_mem_take hn))
      simp only [Function.comp, UInt8.toNat_ofNat']
      rw [show ((n.toNat % 2 ^ 8 : Nat) : Int) = n from by omega]
    refine ⟨(zs.take len).map fun n => UInt8.ofNat n.toNat, hl, hm, ?_⟩
    rw [e]
    refine ⟨by simp; omega, fun j hj => ?_⟩
    have hj' : j < zs.length := by simp at hj; omega
    have h1 := hc j hj'
    have h2 : w.cell? (x.add j) = some (((zs.take len).map (Value.int .u8))[j]) := by
      rw [h1]
      simp [List.getD, List.getElem?_eq_getElem hj']
    refine ⟨x, rfl, ?_, h2⟩
    have := World.block_lt_of_cell? w (x.add j) h2
    rwa [add_block] at this
theorem row64_of {w : World} {a : Option Addr} {len cap : Nat} {zs : List Int}
    (h : (a = none ∧ len = 0 ∧ cap = 0 ∧ zs = []) ∨ ∃ x, a = some x ∧ len ≤ cap ∧ cap ≤ maxLen ∧ zs.length = cap ∧ (∀ i, i < zs.length → w.cell? (x.add i) = some (.int .i64 (zs.getD i 0))) ∧ ∀ n ∈ zs, (Lit.int .i64 n).wf = true) :
    ∃ l : List Int, len ≤ cap ∧ cap ≤ maxLen ∧ Row w.heap.size w a len 1 (l.map (Value.int .i64)) ∧ ∀ n ∈ l, -9223372036854775808 ≤ n ∧ n ≤ 9223372036854775807 := by
  rcases h with ⟨rfl, rfl, rfl, rfl⟩ | ⟨x, rfl, hl, hm, hz, hc, hw⟩
  · exact ⟨[], Nat.le_refl _, Nat.zero_le _, Row.nil_, fun n hn => by simp at hn⟩
  · refine ⟨zs.take len, hl, hm, ⟨by simp; omega, fun j hj => ?_⟩, fun n hn => i64_of (hw n (List.mem_of_mem_take hn))⟩
    have hj' : j < zs.length := by simp at hj; omega
    have h2 : w.cell? (x.add j) = some (((zs.take len).map (Value.int .i64))[j]) := by
      rw [hc j hj']
      simp [List.getD, List.getElem?_eq_getElem hj']
    refine ⟨x, rfl, ?_, h2⟩
    have := World.block_lt_of_cell? w (x.add j) h2
    rwa [add_block] at this
end Go.Proofs.YthepokgkfaocmaaGreatDoor

/-
  Views and changes, as an argument brings them in, opened.
-/
namespace Go.Proofs.YthepokgkfaocmaaGreatDoor
open Go Go.RowKit Go.ChangeShapes Go.WideShapes Go.Deep Go.Joins

section
variable {H : Type} {enc : TypeId × Value → H} {P : Program} {w : World} {base : Nat} {spare : Nat → Bool} {held : Bool}
theorem open_slice_fields {t e : TypeId} {fs : Array Field} {fuel : Nat} {cs : List Value} {x : DataW H × List MemPlace} (ht : P.underlying t = some (.slice e)) (he : P.underlying e = some (.struct fs))
    (hone : oneCellFields P fs = true) (hC : P.cellsOf e = fs.size) (h : DataW.trod enc P w base spare held fuel t cs = some x) :
    cs = [.slice none 0 0] ∨
    ∃ (a : Addr) (len cap m : Nat), cs = [.slice (some a) len cap] ∧ len ≤ cap ∧ cap ≤ maxLen ∧ m = (if spare a.block then cap else len) ∧
      ∀ i, i < m → ∃ (ys : List (DataW H × List MemPlace)) (n : Nat),
        ∀ (j : Nat) (f : Field), fs[j]? = some f → ∃ (v : Value) (y : DataW H × List MemPlace), w.cell? (a.add (i * fs.size + j)) = some v ∧ ys[j]? = some y ∧ DataW.trod enc P w base spare held n f.type [v] = some y := by
  rcases open_slice ht h with ⟨h0, _⟩ | ⟨a, len, cap, m, n, D, Pl, hcs, hb, hl, hm, hmm, hx, hi⟩
  · exact .inl h0
  · refine .inr ⟨a, len, cap, m, hcs, hl, hm, hmm, fun i him => ?_⟩
    obtain ⟨cs', hc, ht'⟩ := hi i him
    rw [hC] at hc
    obtain ⟨ys, n', hn', hy, hlen, hyl, hf⟩ := DataW.trod_struct he ht'
    obtain ⟨_, hcl, hat⟩ := World.cells?_some hc
    refine ⟨ys, n', fun j f hj => ?_⟩
    obtain ⟨ho, hk⟩ := hone_of hone j f hj
    have hjl : j < fs.size := (Array.getElem?_eq_some_iff.1 hj).1
    have hcell := hat j hjl
    have hv : cs'[j]? = some (cs'[j]'(by omega)) := List.getElem?_eq_getElem (by omega)
    have h1 := hf j f hj
    rw [ho, hk] at h1
    have hone' : (cs'.drop j).take 1 = [cs'[j]'(by omega)] := by
      rw [List.drop_eq_getElem_cons (by omega)]
      rfl
    rw [hone'] at h1
    have hys : ys[j]? = some (ys[j]'(by omega)) := List.getElem?_eq_getElem (by omega)
    refine ⟨_, _, ?_, hys, h1.trans hys⟩
    rw [← Go.Deep.add_add, hcell, hv]
theorem open_agg6 {r : Reach} {b0 : Nat} {t : TypeId} {f0 f1 f2 f3 f4 f5 : Field} {v : Value} {d : DataW H} {p : List MemPlace} (hs : P.underlying t = some (.struct #[f0, f1, f2, f3, f4, f5])) (hone : oneCellFields P #[f0, f1, f2, f3, f4, f5] = true) (hC : P.cellsOf t = 6)
    (hv : Value.okWide P w r b0 t v) (h : DataW.Trod enc P w base spare held t v d p) :
    ∃ (v0 v1 v2 v3 v4 v5 : Value) (y0 y1 y2 y3 y4 y5 : DataW H × List MemPlace) (n : Nat), v = .agg #[v0, v1, v2, v3, v4, v5] ∧ d = .agg [y0.1, y1.1, y2.1, y3.1, y4.1, y5.1] ∧ p = y0.2 ++ (y1.2 ++ (y2.2 ++ (y3.2 ++ (y4.2 ++ y5.2)))) ∧
      DataW.trod enc P w base spare held n f0.type [v0] = some y0 ∧ DataW.trod enc P w base spare held n f1.type [v1] = some y1 ∧ DataW.trod enc P w base spare held n f2.type [v2] = some y2 ∧ DataW.trod enc P w base spare held n f3.type [v3] = some y3 ∧ DataW.trod enc P w base spare held n f4.type [v4] = some y4 ∧ DataW.trod enc P w base spare held n f5.type [v5] = some y5 := by
  obtain ⟨cs, rfl, hsz⟩ := okWide_struct hs hv
  obtain ⟨l⟩ := cs
  match l, hsz.trans hC with
  | [c0, c1, c2, c3, c4, c5], _ =>
    obtain ⟨fuel, hf⟩ := h
    obtain ⟨xs, n, _, hx, _, hlen, hg⟩ := DataW.trod_struct hs hf
    obtain ⟨o0, k0⟩ := hone_of hone 0 f0 rfl
    obtain ⟨o1, k1⟩ := hone_of hone 1 f1 rfl
    obtain ⟨o2, k2⟩ := hone_of hone 2 f2 rfl
    obtain ⟨o3, k3⟩ := hone_of hone 3 f3 rfl
    obtain ⟨o4, k4⟩ := hone_of hone 4 f4 rfl
    obtain ⟨o5, k5⟩ := hone_of hone 5 f5 rfl
    match xs, hlen with
    | [y0, y1, y2, y3, y4, y5], _ =>
      simp only [Prod.mk.injEq] at hx
      exact ⟨c0, c1, c2, c3, c4, c5, y0, y1, y2, y3, y4, y5, n, rfl, by simpa using hx.1, by simpa using hx.2, by simpa [Value.cells, o0, k0] using hg 0 f0 rfl, by simpa [Value.cells, o1, k1] using hg 1 f1 rfl, by simpa [Value.cells, o2, k2] using hg 2 f2 rfl, by simpa [Value.cells, o3, k3] using hg 3 f3 rfl, by simpa [Value.cells, o4, k4] using hg 4 f4 rfl, by simpa [Value.cells, o5, k5] using hg 5 f5 rfl⟩
end

theorem wfi64 {n : Int} (h : (Lit.int .i64 n).wf = true) : -9223372036854775808 ≤ n ∧ n ≤ 9223372036854775807 := by
  simp only [Lit.wf, IntKind.min, IntKind.max, IntKind.signed, IntKind.bits, Bool.and_eq_true, decide_eq_true_eq, if_true] at h
  omega
theorem wfu64 {n : Int} (h : (Lit.int .u64 n).wf = true) : ∃ u : Nat, n = (u : Int) ∧ u < 18446744073709551616 := by
  simp only [Lit.wf, IntKind.min, IntKind.max, IntKind.signed, IntKind.bits, Bool.and_eq_true, decide_eq_true_eq, Bool.false_eq_true, if_false] at h
  exact ⟨n.toNat, by omega, by omega⟩
theorem row_of_files (W : World) (a : Addr) (len : Nat) (f : Nat → Int × Int) (h : ∀ i, i < len → W.cell? (a.add (i * 2)) = some (.int .i64 (f i).1) ∧ W.cell? (a.add (i * 2 + 1)) = some (.int .i64 (f i).2)) :
    Row W.heap.size W (some a) len 2 (fcells ((List.range len).map f)) := by
  have hl := fcells_len ((List.range len).map f)
  simp only [List.length_map, List.length_range] at hl
  refine ⟨hl, fun j hj => ?_⟩
  have hi : j / 2 < len := by omega
  obtain ⟨h0, h1⟩ := h (j / 2) hi
  obtain ⟨g0, g1⟩ := fcells_get ((List.range len).map f) (j / 2) (by simpa using hi)
  have hb := World.block_lt_of_cell? W _ h0
  rw [add_block] at hb
  refine ⟨a, rfl, hb, ?_⟩
  rw [← List.getElem?_eq_getElem hj]
  rcases Nat.mod_two_eq_zero_or_one j with hm | hm
  · rw [show j / 2 * 2 = j by omega] at g0 h0
    rw [g0, h0]
    simp
  · rw [show j / 2 * 2 + 1 = j by omega] at g1 h1
    rw [g1, h1]
    simp
theorem files_of {H : Type} {enc : TypeId × Value → H} {W : World} {base : Nat} {spare : Nat → Bool} {held : Bool} {fuel : Nat} {v : Value} {x : DataW H × List MemPlace}
    (h : DataW.trod enc Tryz.prog W base spare held fuel 28 [v] = some x) : ∃ (A : Option Addr) (n c : Nat) (fs : List (Int × Int)), v = .slice A n c ∧ n ≤ c ∧ c ≤ maxLen ∧ Row W.heap.size W A n 2 (fcells fs) := by
  rcases open_slice_fields Tryz.underlying28 Tryz.underlying114 (by kernel_rfl) (by kernel_rfl) h with hcs | ⟨a, l, c, m, hcs, hl, hm, hmm, hx⟩
  · simp at hcs
    subst hcs
    exact ⟨none, 0, 0, [], rfl, Nat.le_refl _, Nat.zero_le _, Row.nil_⟩
  · simp at hcs
    subst hcs
    have hlm : l ≤ m := by subst hmm; split <;> omega
    have key : ∀ i : Nat, ∃ p : Int × Int, i < l → W.cell? (a.add (i * 2)) = some (.int .i64 p.1) ∧ W.cell? (a.add (i * 2 + 1)) = some (.int .i64 p.2) := by
      intro i
      by_cases hi : i < l
      · obtain ⟨ys, n, hf⟩ := hx i (by omega)
        obtain ⟨v0, y0, h0, _, t0⟩ := hf 0 _ rfl
        obtain ⟨v1, y1, h1, _, t1⟩ := hf 1 _ rfl
        obtain ⟨z0, e0, _, _⟩ := DataW.trod_int Tryz.underlying3 t0
        obtain ⟨z1, e1, _, _⟩ := DataW.trod_int Tryz.underlying3 t1
        simp at e0 e1
        subst e0 e1
        exact ⟨(z0, z1), fun _ => ⟨h0, h1⟩⟩
      · exact ⟨(0, 0), fun h => absurd h hi⟩
    obtain ⟨f, hf⟩ := Classical.axiomOfChoice key
    exact ⟨some a, l, c, _, rfl, hl, hm, row_of_files W a l f hf⟩
theorem ints_of {H : Type} {enc : TypeId × Value → H} {W : World} {base : Nat} {spare : Nat → Bool} {held : Bool} {fuel : Nat} {v : Value} {x : DataW H × List MemPlace}
    (h : DataW.trod enc Tryz.prog W base spare held fuel 37 [v] = some x) : ∃ (A : Option Addr) (n c : Nat) (ns : List Int), v = .slice A n c ∧ n ≤ c ∧ c ≤ maxLen ∧ Row W.heap.size W A n 1 (icells ns) := by
  rcases open_ints Tryz.underlying37 Tryz.underlying3 (by kernel_rfl) h with ⟨hcs, _⟩ | ⟨a, l, c, zs, hcs, _, hl, hm, hz, _, hcell, hwz⟩
  · simp at hcs
    subst hcs
    exact ⟨none, 0, 0, [], rfl, Nat.le_refl _, Nat.zero_le _, Row.nil_⟩
  · simp at hcs
    subst hcs
    have hlz : l ≤ zs.length := by rw [hz]; split <;> omega
    refine ⟨some a, l, c, zs.take l, rfl, hl, hm, by simp [icells]; omega, fun j hj => ?_⟩
    simp [icells] at hj
    have h0 := hcell j (by omega)
    have hb := World.block_lt_of_cell? W _ h0
    rw [add_block] at hb
    refine ⟨a, rfl, hb, ?_⟩
    rw [h0]
    simp [icells, List.getD_eq_getElem?_getD, List.getElem?_eq_getElem (show j < zs.length by omega)]
set_option maxRecDepth 100000 in
/-- A View, opened. -/
theorem view_of {H : Type} {enc : TypeId × Value → H} {W : World} {base b0 : Nat} {r : Reach} {spare : Nat → Bool} {held : Bool} {v : Value} {d : DataW H} {p : List MemPlace}
    (hv : Value.okWide Tryz.prog W r b0 31 v) (h : DataW.Trod enc Tryz.prog W base spare held 31 v d p) :
    ∃ (u : Vw) (A : Option Addr) (n c : Nat), v = u.val A n c ∧ n ≤ c ∧ c ≤ maxLen ∧ Row W.heap.size W A n 2 (fcells u.files) ∧ -9223372036854775808 ≤ u.log ∧ u.log ≤ 9223372036854775807 ∧ u.floor < 18446744073709551616 ∧ u.cert < 18446744073709551616 ∧ u.at_ < 18446744073709551616 ∧ u.lease < 18446744073709551616 := by
  obtain ⟨v0, v1, v2, v3, v4, v5, y0, y1, y2, y3, y4, y5, n, rfl, _, _, t0, t1, t2, t3, t4, t5⟩ := open_agg6 Tryz.underlying31 (by kernel_rfl) (by kernel_rfl) hv h
  obtain ⟨z0, e0, _, w0⟩ := DataW.trod_int Tryz.underlying3 t0
  obtain ⟨z2, e2, _, w2⟩ := DataW.trod_int Tryz.underlying29 t2
  obtain ⟨z3, e3, _, w3⟩ := DataW.trod_int Tryz.underlying29 t3
  obtain ⟨z4, e4, _, w4⟩ := DataW.trod_int Tryz.underlying29 t4
  obtain ⟨z5, e5, _, w5⟩ := DataW.trod_int Tryz.underlying29 t5
  obtain ⟨A, k, c, fs, rfl, h1, h2, h3⟩ := files_of t1
  simp at e0 e2 e3 e4 e5
  subst e0 e2 e3 e4 e5
  have b0 := wfi64 w0
  obtain ⟨u2, rfl, b2⟩ := wfu64 w2
  obtain ⟨u3, rfl, b3⟩ := wfu64 w3
  obtain ⟨u4, rfl, b4⟩ := wfu64 w4
  obtain ⟨u5, rfl, b5⟩ := wfu64 w5
  exact ⟨⟨z0, fs, u2, u3, u4, u5⟩, A, k, c, rfl, h1, h2, h3, b0.1, b0.2, b2, b3, b4, b5⟩
end Go.Proofs.YthepokgkfaocmaaGreatDoor

/-
  The walk of the reference's SameView, for any two Views.
-/
namespace Go.Proofs.YthepokgkfaocmaaGreatDoor
open Go Go.RowKit

/-- Two Views are the same. -/
def Vw.same (u v : Vw) : Bool := u.log == v.log && (u.floor == v.floor && (u.cert == v.cert && (u.at_ == v.at_ && (u.lease == v.lease && u.files == v.files))))
theorem Vw.same_iff {u v : Vw} : u.same v = true ↔ u = v := by
  obtain ⟨a, b, c, d, e, f⟩ := u
  obtain ⟨a', b', c', d', e', f'⟩ := v
  simp only [Vw.same, Bool.and_eq_true, beq_iff_eq, Vw.mk.injEq]
  constructor
  · rintro ⟨h1, h2, h3, h4, h5, h6⟩; exact ⟨h1, h6, h2, h3, h4, h5⟩
  · rintro ⟨h1, h6, h2, h3, h4, h5⟩; exact ⟨h1, h2, h3, h4, h5, h6⟩
theorem Vw.same_self (u : Vw) : u.same u = true := Vw.same_iff.2 rfl
theorem lists_eq {fs gs : List (Int × Int)} (hl : fs.length = gs.length) : fs = gs ↔ ∀ k (h1 : k < fs.length) (h2 : k < gs.length), fs[k] = gs[k] := ⟨fun h => by subst h; exact fun _ _ _ => rfl, fun h => List.ext_getElem hl h⟩
set_option maxRecDepth 100000 in
set_option maxHeartbeats 4000000 in
theorem sameview_any (u v : Vw) (A : Option Addr) (n c : Nat) (A2 : Option Addr) (m d : Nat) (w : World) (hn : n ≤ 1000000) (hm : m ≤ 1000000) (hru : Row w.heap.size w A n 2 (fcells u.files)) (hrv : Row w.heap.size w A2 m 2 (fcells v.files)) :
    Calls Tryz.prog 27 #[u.val A n c, v.val A2 m d] w fun e w' => e = .returned (.bool (u.same v)) ∧ Below w.heap.size w w' := by
  obtain ⟨g, fs, f, ce, a, l⟩ := u
  obtain ⟨g2, gs, f2, ce2, a2, l2⟩ := v
  obtain ⟨b, hb⟩ : ∃ b, b = Vw.same ⟨g, fs, f, ce, a, l⟩ ⟨g2, gs, f2, ce2, a2, l2⟩ := ⟨_, rfl⟩
  have hfl := hru.flen
  have hgl := hrv.flen
  rw [← hb]
  unfold Vw.same at hb
  simp only at hb hru hrv hfl hgl
  unfold Vw.val
  simp only
  have hbl := ((Below.refl w.heap.size w).alloc (Nat.le_refl _) (.cells #[.int .i64 g, .slice A n c, .int .u64 (f : Int), .int .u64 (ce : Int), .int .u64 (a : Int), .int .u64 (l : Int)] 31)).alloc (by simp) (.cells #[.int .i64 g2, .slice A2 m d, .int .u64 (f2 : Int), .int .u64 (ce2 : Int), .int .u64 (a2 : Int), .int .u64 (l2 : Int)] 31)
  by_cases h1 : g = g2
  case neg =>
    rw [show (g == g2) = false from beq_eq_false_iff_ne.2 h1] at hb
    have HB := Lib.hid hb
    clear hb hfl hgl hru hrv
    go_enter Tryz.func27, Tryz.ntmps27
    go_wp2
    go_ret
    exact ⟨ret_b (HB.out.trans rfl).symm, hbl⟩
  by_cases h2 : f = f2
  case neg =>
    have e1 : ¬ (f : Int) = (f2 : Int) := by omega
    rw [show (f == f2) = false from beq_eq_false_iff_ne.2 h2] at hb
    have HB := Lib.hid (hb.trans (show _ = false by simp))
    clear hb hfl hgl hru hrv h2
    subst h1
    go_enter Tryz.func27, Tryz.ntmps27
    go_wp2
    go_ret
    exact ⟨ret_b HB.out.symm, hbl⟩
  by_cases h3 : ce = ce2
  case neg =>
    have e1 : ¬ (ce : Int) = (ce2 : Int) := by omega
    rw [show (ce == ce2) = false from beq_eq_false_iff_ne.2 h3] at hb
    have HB := Lib.hid (hb.trans (show _ = false by simp))
    clear hb hfl hgl hru hrv h3
    subst h1 h2
    go_enter Tryz.func27, Tryz.ntmps27
    go_wp2
    go_ret
    exact ⟨ret_b HB.out.symm, hbl⟩
  by_cases h4 : a = a2
  case neg =>
    have e1 : ¬ (a : Int) = (a2 : Int) := by omega
    rw [show (a == a2) = false from beq_eq_false_iff_ne.2 h4] at hb
    have HB := Lib.hid (hb.trans (show _ = false by simp))
    clear hb hfl hgl hru hrv h4
    subst h1 h2 h3
    go_enter Tryz.func27, Tryz.ntmps27
    go_wp2
    go_ret
    exact ⟨ret_b HB.out.symm, hbl⟩
  by_cases h5 : l = l2
  case neg =>
    have e1 : ¬ (l : Int) = (l2 : Int) := by omega
    rw [show (l == l2) = false from beq_eq_false_iff_ne.2 h5] at hb
    have HB := Lib.hid (hb.trans (show _ = false by simp))
    clear hb hfl hgl hru hrv h5
    subst h1 h2 h3 h4
    go_enter Tryz.func27, Tryz.ntmps27
    go_wp2
    go_ret
    exact ⟨ret_b HB.out.symm, hbl⟩
  by_cases h6 : n = m
  case neg =>
    have e1 : ¬ (n : Int) = (m : Int) := by omega
    have e2 : (fs == gs) = false := beq_eq_false_iff_ne.2 (fun e => h6 (by rw [← hfl, ← hgl, e]))
    rw [e2] at hb
    have HB := Lib.hid (hb.trans (show _ = false by simp))
    clear hb hfl hgl hru hrv h6 e2
    subst h1 h2 h3 h4 h5
    go_enter Tryz.func27, Tryz.ntmps27
    go_wp2
    go_ret
    exact ⟨ret_b HB.out.symm, hbl⟩
  subst h1 h2 h3 h4 h5 h6
  have hbb : b = (fs == gs) := by rw [hb]; simp
  have hle := lists_eq (show fs.length = gs.length by omega)
  have hbe : b = true ↔ fs = gs := by rw [hbb]; exact beq_iff_eq
  rw [hle] at hbe
  have HE := Lib.hid hbe
  have hU := (BoxO.new w #[.int .i64 g, .slice A n c, .int .u64 (f : Int), .int .u64 (ce : Int), .int .u64 (a : Int), .int .u64 (l : Int)] 31).alloc (.cells #[.int .i64 g, .slice A2 n d, .int .u64 (f : Int), .int .u64 (ce : Int), .int .u64 (a : Int), .int .u64 (l : Int)] 31)
  have hV := BoxO.new (w.alloc (.cells #[.int .i64 g, .slice A n c, .int .u64 (f : Int), .int .u64 (ce : Int), .int .u64 (a : Int), .int .u64 (l : Int)] 31)) #[.int .i64 g, .slice A2 n d, .int .u64 (f : Int), .int .u64 (ce : Int), .int .u64 (a : Int), .int .u64 (l : Int)] 31
  simp only [World.size_alloc] at hV
  have hru2 := (hru.below hbl).up hbl.size
  have hrv2 := (hrv.below hbl).up hbl.size
  clear hb hbb hle hbe hru hrv
  go_enter Tryz.func27, Tryz.ntmps27
  go_wp2
  generalize ((w.alloc (.cells #[.int .i64 g, .slice A n c, .int .u64 (f : Int), .int .u64 (ce : Int), .int .u64 (a : Int), .int .u64 (l : Int)] 31)).alloc (.cells #[.int .i64 g, .slice A2 n d, .int .u64 (f : Int), .int .u64 (ce : Int), .int .u64 (a : Int), .int .u64 (l : Int)] 31)) = W at *
  go_loopw [5] (fun i wr => ∃ k q : Nat, k ≤ n ∧ i = .int .i64 (k : Int) ∧ Hid (∀ j (h1 : j < fs.length) (h2 : j < gs.length), j < k → fs[j] = gs[j]) ∧ wr = W.drewN q) (fun i _ => n - (intOf i).toNat)
  case atStart => exact ⟨0, 0, Nat.zero_le _, rfl, Lib.hid (fun j _ _ h => by omega), rfl⟩
  case round =>
    obtain ⟨k, q, hk, rfl, hgd, rfl⟩ := hrel
    have q1 := hU.cell 1
    have p1 := hV.cell 1
    simp only [List.getElem?_cons_zero, List.getElem?_cons_succ] at q1 p1
    by_cases hlt : k < n
    · obtain ⟨ad, hl, rfl, hbk, c0, c1⟩ := hru2.file hlt
      obtain ⟨ad2, hl2, rfl, hbk2, d0, d1⟩ := hrv2.file hlt
      have hbad : fs[k] ≠ gs[k] → b = false := fun h => by
        cases b with
        | false => rfl
        | true => exact absurd (HE.out.1 rfl k hl hl2) h
      have hnext : fs[k] = gs[k] → ∀ j (h1 : j < fs.length) (h2 : j < gs.length), j < k + 1 → fs[j] = gs[j] := fun e j hj hj2 hjk => by
        rcases Nat.lt_or_ge j k with h | h
        · exact hgd.out j hj hj2 h
        · obtain rfl : j = k := by omega
          exact e
      generalize fs[k] = x at *
      generalize gs[k] = y at *
      obtain ⟨x0, x1⟩ := x
      obtain ⟨y0, y1⟩ := y
      have H1 := Lib.hid hbad
      have H2 := Lib.hid hnext
      clear hbad hnext hgd HE hU hV hl hl2 hru2 hrv2
      by_cases hx : x0 = y0
      · by_cases hy : x1 = y1
        · have HN := Lib.hid (H2.out (Prod.ext hx hy))
          clear H1 H2
          subst hx hy
          go_wp2_with fail
          go_quiet (fail)
          go_wp2
          go_roundw
          case rel => exact ⟨k + 1, _, by omega, by go_num, HN, rfl⟩
          case measure => simp [intOf]; omega
        · subst hx
          have HB := Lib.hid (H1.out (fun e => hy (Prod.mk.inj e).2))
          go_wp2_with fail
          go_quiet (fail)
          go_wp2
          go_ret
          exact ⟨ret_b HB.out.symm, below_drewN (below_drewN hbl q) _⟩
      · have HB := Lib.hid (H1.out (fun e => hx (Prod.mk.inj e).1))
        go_wp2_with fail
        go_quiet (fail)
        go_wp2
        go_ret
        exact ⟨ret_b HB.out.symm, below_drewN (below_drewN hbl q) _⟩
    · have hfin : b = true := HE.out.2 (fun j h1 h2 => hgd.out j h1 h2 (by omega))
      have HF := Lib.hid hfin
      clear hfin hgd HE
      go_wp2
      go_ret
      exact ⟨ret_b HF.out.symm, below_drewN hbl q⟩
end Go.Proofs.YthepokgkfaocmaaGreatDoor

/-
  The walks of num.Unlist and of the reader's take, for any bytes.
-/
namespace Go.Proofs.YthepokgkfaocmaaGreatDoor
open Go Go.RowKit

namespace Pn
theorem takeF_size : ∀ (l : List UInt8) (i acc : Nat), (takeF i acc l).2.2 = 0 → (takeF i acc l).2.1 ≤ i + l.length
  | [], i, acc, h => by simp [takeF] at h
  | c :: r, i, acc, h => by
    unfold takeF at h ⊢
    split
    · rw [if_pos (by assumption)] at h; simp at h
    · rw [if_neg (by assumption)] at h
      split
      · simp
      · rw [if_neg (by assumption)] at h
        have := takeF_size r (i + 1) _ h
        simp only [List.length_cons]
        omega
theorem take_size {l : List UInt8} (h : (take l).2.2 = 0) : (take l).2.1 ≤ l.length := by
  have := takeF_size l 0 0 h
  unfold take
  omega
theorem takeF_lt : ∀ (l : List UInt8) (i acc : Nat), i ≤ 9 → acc < 2 ^ (7 * i) → (takeF i acc l).1 < 2 ^ 64
  | [], i, acc, _, _ => by simp [takeF]
  | c :: r, i, acc, hi, ha => by
    unfold takeF
    split
    · simp
    · rename_i hn
      have h9 : i = 9 → c.toNat ≤ 1 := fun e => by
        rcases Nat.lt_or_ge 1 c.toNat with h | h
        · exact absurd (.inl ⟨e, h⟩) hn
        · exact h
      have hpow : 2 ^ (7 * i) * 128 = 2 ^ (7 * (i + 1)) := by rw [Nat.mul_add, Nat.pow_add]
      split
      · rename_i hc
        show acc + c.toNat * 2 ^ (7 * i) < 2 ^ 64
        rcases (by omega : i = 9 ∨ i ≤ 8) with rfl | h8
        · have := h9 rfl
          have e1 : c.toNat * 2 ^ (7 * 9) ≤ 1 * 2 ^ (7 * 9) := Nat.mul_le_mul_right _ this
          omega
        · have e1 : c.toNat * 2 ^ (7 * i) ≤ 127 * 2 ^ (7 * i) := Nat.mul_le_mul_right _ (by omega)
          have e2 : 2 ^ (7 * (i + 1)) ≤ 2 ^ 63 := Nat.pow_le_pow_right (by omega) (by omega)
          omega
      · rename_i hc
        have h8 : i ≤ 8 := by
          rcases (by omega : i = 9 ∨ i ≤ 8) with rfl | h8
          · have := h9 rfl; omega
          · exact h8
        refine takeF_lt r (i + 1) _ (by omega) ?_
        have hcl := c.toNat_lt
        have e1 : (c.toNat - 128) * 2 ^ (7 * i) ≤ 127 * 2 ^ (7 * i) := Nat.mul_le_mul_right _ (by omega)
        omega
theorem take_lt (l : List UInt8) : (take l).1 < 2 ^ 64 := takeF_lt l 0 0 (by omega) (by simp)
theorem unlistF_step (j at_ : Nat) (l : List UInt8) (out : List Nat) : unlistF (j + 1) at_ l out = if (take (l.drop at_)).2.2 = 0 then unlistF j (at_ + (take (l.drop at_)).2.1) l (out ++ [(take (l.drop at_)).1]) else ([], 0, (take (l.drop at_)).2.2) := by
  rw [unlistF]
  generalize take (l.drop at_) = p
  obtain ⟨x, s, e⟩ := p
  match e with
  | 0 => rfl
  | e + 1 => rfl
theorem unlist_eq (l : List UInt8) (most : Nat) : unlist l most = if (take l).2.2 = 0 then (if most < (take l).1 then ([], 0, 2) else unlistF (take l).1 (take l).2.1 l []) else ([], 0, (take l).2.2) := by
  unfold unlist
  generalize take l = p
  obtain ⟨x, s, e⟩ := p
  match e with
  | 0 => rfl
  | e + 1 => rfl
theorem unlistF_at : ∀ (k at_ : Nat) (l : List UInt8) (out : List Nat), (unlistF k at_ l out).2.2 = 0 → at_ ≤ l.length → (unlistF k at_ l out).2.1 ≤ l.length
  | 0, at_, l, out, _, h => by simpa [unlistF] using h
  | k + 1, at_, l, out, h, ha => by
    rw [unlistF_step] at h ⊢
    have hs := take_size (l := l.drop at_)
    rw [List.length_drop] at hs
    split
    · rename_i h0
      rw [if_pos h0] at h
      have := hs h0
      exact unlistF_at k _ l _ h (by omega)
    · simp
theorem unlist_le (l : List UInt8) (most : Nat) (h : (unlist l most).2.2 = 0) : (unlist l most).2.1 ≤ l.length ∧ (unlist l most).1.length ≤ most := by
  rw [unlist_eq] at h ⊢
  have hs := take_size (l := l)
  by_cases h0 : (take l).2.2 = 0
  · rw [if_pos h0] at h ⊢
    by_cases h1 : most < (take l).1
    · rw [if_pos h1] at h; simp at h
    · rw [if_neg h1] at h ⊢
      refine ⟨unlistF_at _ _ l [] h (hs h0), ?_⟩
      have := unlistF_len _ _ l [] h
      simp at this
      omega
  · rw [if_neg h0] at h
    simp at h
    exact absurd h h0
end Pn
theorem row_from {B N : Nat} {w : World} {A : Option Addr} {l : List UInt8} (hr : Row B w A N 1 (bts l)) {s : Nat} (hs : s ≤ N) {A' : Option Addr} (hA : s < N → A' = A.map (·.add s)) : Row B w A' (N - s) 1 (bts (l.drop s)) := by
  have h := hr.cut (A' := A') hs (Nat.le_refl N) (fun hlt => by rw [Nat.mul_one]; exact hA hlt)
  rw [Nat.mul_one, Nat.mul_one, ← bts_drop, ← bts_take] at h
  rwa [List.take_of_length_le (by have := hr.btlen; rw [List.length_drop]; omega)] at h
set_option maxRecDepth 100000 in
set_option maxHeartbeats 2000000 in
theorem unlist_any (A : Option Addr) (N c : Nat) (l : List UInt8) (m : Nat) (w : World) (hN : N ≤ 1000000000) (hNc : N ≤ c) (hm : m ≤ 1000) (hr : Row w.heap.size w A N 1 (bts l)) :
    Calls Tryz.prog 127 #[.slice A N c, .int .i64 (m : Int)] w fun e w' => ∃ A' k' c', e = .returned (.tuple #[.slice A' k' c', .int .i64 ((Pn.unlist l m).2.1 : Int), .int .i64 ((Pn.unlist l m).2.2 : Int)]) ∧
      w'.ownsRow w.heap.size 29 1 (.slice A' k' c') k' (u64v (Pn.unlist l m).1) ∧ Below w.heap.size w w' := by
  obtain ⟨j0, hj0, hj1, hj2, hj3⟩ := info_parts (show (Tryz.prog.info? 29).map (fun i => (i.zero, i.size, i.bytes)) = some (some (.int .u64 0), 1, 8) by kernel_rfl)
  have hln := hr.btlen
  have ht := take_any A N c l w (by omega) hr
  have hu := Pn.unlist_eq l m
  have hts := Pn.take_size (l := l)
  have htl := Pn.take_lt l
  obtain ⟨R, hR⟩ : ∃ R, R = Pn.unlist l m := ⟨_, rfl⟩
  rw [← hR] at hu ⊢
  generalize hp : Pn.take l = p at *
  obtain ⟨n, s, er⟩ := p
  simp only at ht hu hts htl
  clear hp hR
  have hmax : max (m : Int) 0 = (m : Int) := by omega
  have hmw : IntKind.u64.wrap (m : Int) = (m : Int) := by rw [IntKind.wrap_u64]; omega
  by_cases he : er = 0
  · subst he
    rw [if_pos rfl] at hu
    have hs := hts rfl
    by_cases hmn : m < n
    · rw [if_pos hmn] at hu
      have HU := Lib.hid hu
      have hmn' : (m : Int) < (n : Int) := by omega
      clear hu hts hln hr
      go_enter Tryz.func127, Tryz.ntmps127
      go_wp2_with fail
      refine ht.mono ?_
      rintro e w1 ⟨rfl, rfl⟩
      clear ht
      go_wp2
      refine bodyPost_ret (v := .tuple #[.slice none 0 0, .int .i64 0, .int .i64 2]) (by simp [results, go_sem]) rfl ⟨none, 0, 0, by rw [HU.out]; rfl, by rw [HU.out]; exact World.ownsRow_nil _ _ _ _, Below.refl _ _⟩
    · rw [if_neg hmn] at hu
      have HU := Lib.hid hu
      have hmn' : ((m : Int) < (n : Int)) = False := by simp; omega
      have hn1 : n ≤ 1000 := by omega
      have hr0 := hr
      clear hu hts
      go_enter Tryz.func127, Tryz.ntmps127
      go_wp2_with fail
      refine ht.mono ?_
      rintro e w1 ⟨rfl, rfl⟩
      clear ht
      go_wp2
      go_loopw [8, 10, 31] (fun a o x wr => ∃ (k at_ : Nat) (out : List Nat) (A' : Option Addr) (c' : Nat), k ≤ n ∧ a = .int .i64 (at_ : Int) ∧ o = .slice A' k c' ∧ x = .int .u64 (k : Int) ∧ at_ ≤ N ∧ Hid (R = Pn.unlistF (n - k) at_ l out) ∧ wr.ownsRow w.heap.size 29 1 (.slice A' k c') k (u64v out) ∧ Below w.heap.size w wr) (fun _ _ x _ => n - (intOf x).toNat)
      case atStart => exact ⟨0, s, [], none, 0, Nat.zero_le _, rfl, rfl, rfl, by omega, HU, World.ownsRow_nil _ _ _ _, Below.refl _ _⟩
      case round =>
        obtain ⟨k, at_, out, A', c', hk, rfl, rfl, rfl, hat, hRR, hown, hbl⟩ := hrel
        by_cases hlt : k < n
        · have hst := hRR.out
          rw [show n - k = (n - (k + 1)) + 1 by omega, Pn.unlistF_step] at hst
          have hts := Pn.take_size (l := l.drop at_)
          obtain ⟨A2, hA2⟩ : ∃ A2, (if c = at_ then A else Option.map (fun x => x.add at_) A) = A2 := ⟨_, rfl⟩
          have hrow := row_from (hr0.below hbl) hat (A' := A2) (fun hlt2 => by rw [← hA2, if_neg (by omega)])
          have ht2 := take_any A2 (N - at_) (c - at_) (l.drop at_) wr (by omega) (hrow.up hbl.size)
          rw [List.length_drop] at hts
          generalize Pn.take (l.drop at_) = p at *
          obtain ⟨y, sz, e2⟩ := p
          simp only at hst hts ht2
          have hac : at_ ≤ c := by omega
          have HTS := Lib.hid hts
          clear hrow hts hRR
          by_cases he2 : e2 = 0
          · subst he2
            rw [if_pos rfl] at hst
            have HS := Lib.hid hst
            have hsz := HTS.out rfl
            clear hst
            have hrw := Row.new (n := 1) (size := 1) wr #[.int .u64 (y : Int)] 29 rfl
            go_wp2_with fail
            refine ht2.mono ?_
            rintro e w2 ⟨rfl, rfl⟩
            clear ht2
            go_wp2_with (at_builtin; refine stop_in ?_)
            refine stop_out (wpList_app rfl (.tmp 44) (.tmp 46) _ rfl w.heap.size 29 j0 _ 1 8 Tryz.underlying131 hj0 hj1 hj2 hj3 rfl (by omega) (wr.alloc (.cells #[.int .u64 (y : Int)] 29)) (Below.refl _ _) (by have := hbl.size; simp; omega) (.slice A' k c') k (u64v out) rfl (hown.alloc _) (wr.heap.size + 1) _ 1 1 [.int .u64 (y : Int)] rfl hrw (by simp [Value.oneCell']) (k + 1) _ rfl rfl (by unfold maxLen; omega) (by omega) ?_)
            intro A3 c3 w3 ho3 hb3 hg3 hc3 hm3
            have hbl3 := (hbl.alloc hbl.size (.cells #[.int .u64 (y : Int)] 29)).trans hb3
            clear hown hbl hb3 hg3 hrw
            go_wp2_with fail
            go_roundw
            case rel => exact ⟨k + 1, at_ + sz, out ++ [y], A3, c3, by omega, by go_num, rfl, by go_num, by omega, HS, by simpa [u64v] using ho3, hbl3⟩
            case measure => simp [intOf]; omega
          · rw [if_neg he2] at hst
            have HS := Lib.hid hst
            have he3 : ((e2 : Int) == 0) = false := by simp; omega
            clear hst
            go_wp2_with fail
            refine ht2.mono ?_
            rintro e w2 ⟨rfl, rfl⟩
            clear ht2
            go_wp2
            refine bodyPost_ret (v := .tuple #[.slice none 0 0, .int .i64 0, .int .i64 (e2 : Int)]) (by simp [results, go_sem]) rfl ⟨none, 0, 0, by rw [HS.out]; rfl, by rw [HS.out]; exact World.ownsRow_nil _ _ _ _, hbl⟩
        · obtain rfl : n = k := by omega
          have hst := hRR.out
          rw [Nat.sub_self, Pn.unlistF] at hst
          have HS := Lib.hid hst
          clear hst hRR
          go_wp2
          refine bodyPost_ret (v := .tuple #[.slice A' n c', .int .i64 (at_ : Int), .int .i64 0]) (by simp [results, go_sem]) rfl ⟨A', n, c', by rw [HS.out]; rfl, by rw [HS.out]; exact hown, hbl⟩
  · rw [if_neg he] at hu
    have HU := Lib.hid hu
    have he3 : ((er : Int) == 0) = false := by simp; omega
    clear hu hts hln hr
    go_enter Tryz.func127, Tryz.ntmps127
    go_wp2_with fail
    refine ht.mono ?_
    rintro e w1 ⟨rfl, rfl⟩
    clear ht
    go_wp2
    refine bodyPost_ret (v := .tuple #[.slice none 0 0, .int .i64 0, .int .i64 (er : Int)]) (by simp [results, go_sem]) rfl ⟨none, 0, 0, by rw [HU.out]; rfl, by rw [HU.out]; exact World.ownsRow_nil _ _ _ _, Below.refl _ _⟩
set_option maxRecDepth 100000 in
set_option maxHeartbeats 1000000 in
/-- The reader takes a number, or stands still. -/
theorem rtake_gen (B R : Nat) (hB : B ≤ R) (A : Option Addr) (N c : Nat) (l : List UInt8) (ok : Bool) (most : Nat) (w : World) (hN : N ≤ 1000000000) (hNc : N ≤ c) (_hm : most < 18446744073709551616)
    (hR : BoxO w 193 R [.slice A N c, .bool ok]) (hr : Row B w A N 1 (bts l)) :
    Calls Tryz.prog 128 #[.pointer (some ⟨R, 0, none⟩), .int .u64 (most : Int)] w fun e w' => ∃ A' N' c', e = .returned (.int .u64 ((Rd.take most (l, ok)).1 : Int)) ∧ N' ≤ c' ∧ N' ≤ N ∧ Row B w' A' N' 1 (bts (Rd.take most (l, ok)).2.1) ∧ BoxO w' 193 R [.slice A' N' c', .bool (Rd.take most (l, ok)).2.2] ∧ Chg [R] w w' := by
  have h0 := hR.cell 0
  have h1 := hR.cell 1
  have hf := hR.free 0
  have hf1 := hR.free 1
  have ht := take_any A N c l w (by omega) (hr.up (Nat.le_trans hB (Nat.le_of_lt hR.lt)))
  have hts := Pn.take_size (l := l)
  have hln := hr.btlen
  have hrt : Rd.take most (l, ok) = if ok = true ∧ (Pn.take l).2.2 = 0 ∧ (Pn.take l).1 ≤ most then ((Pn.take l).1, (l.drop (Pn.take l).2.1, true)) else (0, (l, false)) := rfl
  obtain ⟨T, hT⟩ : ∃ T, T = Rd.take most (l, ok) := ⟨_, rfl⟩
  rw [← hT] at hrt ⊢
  generalize Pn.take l = p at *
  obtain ⟨n, s, er⟩ := p
  simp only [List.getElem?_cons_zero, List.getElem?_cons_succ] at h0 h1 ht hts hrt
  clear hT
  have HRT := Lib.hid hrt
  clear hrt
  have bad : ∀ (W : World), (ok = true ∧ er = 0 ∧ n ≤ most → False) → W = w.setCell ⟨R, 1, none⟩ (.bool false) → ∃ A' N' c', Ending.returned (.int .u64 0) = .returned (.int .u64 (T.1 : Int)) ∧ N' ≤ c' ∧ N' ≤ N ∧ Row B W A' N' 1 (bts T.2.1) ∧ BoxO W 193 R [.slice A' N' c', .bool T.2.2] ∧ Chg [R] w W := by
    intro W h hW
    rw [HRT.out, if_neg h, hW]
    exact ⟨A, N, c, rfl, hNc, Nat.le_refl _, hr.setCell hB _, hR.store 1 _, chg_set w ⟨R, 1, none⟩ _⟩
  have BAD := Lib.hid bad
  clear bad
  cases ok with
  | false =>
    clear hts hln
    go_enter Tryz.func128, Tryz.ntmps128
    go_wp2_with fail
    refine ht.mono ?_
    rintro e w1 ⟨rfl, rfl⟩
    clear ht
    go_wp2
    go_ret
    exact BAD.out _ (fun h => by cases h.1) rfl
  | true =>
    by_cases he : er = 0
    · by_cases hn : n ≤ most
      · subst he
        have hsl := hts rfl
        obtain ⟨A', hA'⟩ : ∃ A', (if c = s then A else Option.map (fun x => x.add s) A) = A' := ⟨_, rfl⟩
        have hrow := row_from hr (s := s) (A' := A') (by omega) (fun hlt => by rw [← hA', if_neg (by omega)])
        have hn' : ((most : Int) < (n : Int)) = False := by simp; omega
        have hsN : s ≤ N := by omega
        have hscc : s ≤ c := by omega
        have hres : T = (n, (l.drop s, true)) := by rw [HRT.out, if_pos ⟨rfl, rfl, hn⟩]
        have HRES := Lib.hid hres
        clear hts hln hres BAD HRT
        go_enter Tryz.func128, Tryz.ntmps128
        go_wp2_with fail
        refine ht.mono ?_
        rintro e w1 ⟨rfl, rfl⟩
        clear ht
        go_wp2
        go_ret
        rw [HRES.out]
        exact ⟨A', N - s, c - s, rfl, by omega, by omega, hrow.setCell hB _, hR.store 0 _, chg_set w ⟨R, 0, none⟩ _⟩
      · subst he
        have hn' : (most : Int) < (n : Int) := by omega
        clear hts hln
        go_enter Tryz.func128, Tryz.ntmps128
        go_wp2_with fail
        refine ht.mono ?_
        rintro e w1 ⟨rfl, rfl⟩
        clear ht
        go_wp2
        go_ret
        exact BAD.out _ (fun h => hn h.2.2) rfl
    · have he3 : ((er : Int) == 0) = false := by simp; omega
      have he4 : ¬ (er : Int) = 0 := by omega
      clear hts hln
      go_enter Tryz.func128, Tryz.ntmps128
      go_wp2_with fail
      refine ht.mono ?_
      rintro e w1 ⟨rfl, rfl⟩
      clear ht
      go_wp2
      go_ret
      exact BAD.out _ (fun h => he h.2.1) rfl
end Go.Proofs.YthepokgkfaocmaaGreatDoor
