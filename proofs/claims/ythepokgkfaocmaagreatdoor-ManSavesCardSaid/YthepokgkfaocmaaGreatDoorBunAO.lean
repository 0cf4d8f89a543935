/- Texts RefE, Edits, Views in one. No conditions. -/
import Derived.Test.YthepokgkfaocmaaGreatDoorBunAM
import Derived.Test.YthepokgkfaocmaaGreatDoorBunAN
import Derived.Test.YthepokgkfaocmaaGreatDoorBunAL
import Derived.Test.YthepokgkfaocmaaGreatDoorBunAK
import Derived.Test.YthepokgkfaocmaaGreatDoorBunAD

/-
  The walks of Few and of the reference's EditMay, for any change.
-/
namespace Go.Proofs.YthepokgkfaocmaaGreatDoor
open Go Go.RowKit

theorem few_any (e : Ed) (D : Option Addr) (m d : Nat) (A : Option Addr) (n c : Nat) (w : World) :
    Calls Tryz.prog 35 #[e.val D m d A n c] w fun x w' => x = .returned (.bool (decide (m ≤ 60) && decide (n ≤ 60))) ∧ Below w.heap.size w w' := by
  obtain ⟨dr, ad, g, f, ce, a, l⟩ := e
  unfold Ed.val
  simp only
  have hbl := (Below.refl w.heap.size w).alloc (Nat.le_refl _) (.cells #[.slice D m d, .slice A n c, .int .i64 g, .int .u64 (f : Int), .int .u64 (ce : Int), .int .u64 (a : Int), .int .u64 (l : Int)] 39)
  by_cases h1 : m ≤ 60
  · have e1 : ((m : Int) ≤ 60) := by omega
    by_cases h2 : n ≤ 60
    · have e2 : ((n : Int) ≤ 60) := by omega
      have HB := Lib.hid (show (decide (m ≤ 60) && decide (n ≤ 60)) = true by simp [h1, h2])
      go_enter Tryz.func35, Tryz.ntmps35
      go_wp2
      go_ret
      exact ⟨ret_b HB.out.symm, hbl⟩
    · have e2 : ((n : Int) ≤ 60) = False := by simp; omega
      have HB := Lib.hid (show (decide (m ≤ 60) && decide (n ≤ 60)) = false by simp [h2])
      go_enter Tryz.func35, Tryz.ntmps35
      go_wp2
      go_ret
      exact ⟨ret_b HB.out.symm, hbl⟩
  · have e1 : ((m : Int) ≤ 60) = False := by simp; omega
    have HB := Lib.hid (show (decide (m ≤ 60) && decide (n ≤ 60)) = false by simp [h1])
    go_enter Tryz.func35, Tryz.ntmps35
    go_wp2
    go_ret
    exact ⟨ret_b HB.out.symm, hbl⟩

def mayI (b : Bool) : Int := if b = true then 0 else 1
set_option maxRecDepth 100000 in
set_option maxHeartbeats 4000000 in
theorem editmay_any (e : Ed) (D : Option Addr) (m d : Nat) (A : Option Addr) (n c : Nat) (w : World) (hm : m ≤ 1000000) (hn : n ≤ 1000000) (hrd : Row w.heap.size w D m 1 (icells e.drop)) (hra : Row w.heap.size w A n 2 (fcells e.add)) :
    Calls Tryz.prog 37 #[e.val D m d A n c] w fun x w' => x = .returned (.int .i64 (mayI e.may)) ∧ Below w.heap.size w w' := by
  obtain ⟨dr, ad, g, f, ce, a, l⟩ := e
  obtain ⟨b, hb⟩ : ∃ b, b = Ed.may ⟨dr, ad, g, f, ce, a, l⟩ := ⟨_, rfl⟩
  have hdl := hrd.ilen
  have hal := hra.flen
  rw [← hb]
  unfold Ed.may at hb
  simp only at hb hrd hra hdl hal
  rw [hdl, hal] at hb
  unfold Ed.val
  simp only
  have hbl := (Below.refl w.heap.size w).alloc (Nat.le_refl _) (.cells #[.slice D m d, .slice A n c, .int .i64 g, .int .u64 (f : Int), .int .u64 (ce : Int), .int .u64 (a : Int), .int .u64 (l : Int)] 39)
  have zero : ∀ b', b' = b → b' = false → mayI b = 1 := fun b' h1 h2 => by rw [← h1, h2]; rfl
  by_cases h1 : 40 < m
  · have e1 : (40 : Int) < (m : Int) := by omega
    have HB := Lib.hid (zero _ rfl (hb.trans (show _ = false by simp; omega)))
    clear hb hdl hal hrd hra zero
    go_enter Tryz.func37, Tryz.ntmps37
    go_wp2
    go_ret
    exact ⟨ret_i HB.out.symm, hbl⟩
  have e1 : ((40 : Int) < (m : Int)) = False := by simp; omega
  by_cases h2 : 40 < n
  · have e2 : (40 : Int) < (n : Int) := by omega
    have HB := Lib.hid (zero _ rfl (hb.trans (show _ = false by simp; omega)))
    clear hb hdl hal hrd hra zero
    go_enter Tryz.func37, Tryz.ntmps37
    go_wp2
    go_ret
    exact ⟨ret_i HB.out.symm, hbl⟩
  have e2 : ((40 : Int) < (n : Int)) = False := by simp; omega
  by_cases h3 : g < 0
  · have HB := Lib.hid (zero _ rfl (hb.trans (show _ = false by (have : ¬ 0 ≤ g := by omega); simp [this])))
    clear hb hdl hal hrd hra zero
    go_enter Tryz.func37, Tryz.ntmps37
    go_wp2
    go_ret
    exact ⟨ret_i HB.out.symm, hbl⟩
  by_cases h4 : 1073741824 < g
  · have HB := Lib.hid (zero _ rfl (hb.trans (show _ = false by (have : ¬ g ≤ 1073741824 := by omega); simp [this])))
    clear hb hdl hal hrd hra zero
    go_enter Tryz.func37, Tryz.ntmps37
    go_wp2
    go_ret
    exact ⟨ret_i HB.out.symm, hbl⟩
  by_cases h5 : 281474976710656 < f
  · have e5 : (281474976710656 : Int) < (f : Int) := by omega
    have HB := Lib.hid (zero _ rfl (hb.trans (show _ = false by (have : ¬ f ≤ 281474976710656 := by omega); simp [four4, this])))
    clear hb hdl hal hrd hra zero
    go_enter Tryz.func37, Tryz.ntmps37
    go_wp2
    go_ret
    exact ⟨ret_i HB.out.symm, hbl⟩
  have e5 : ((281474976710656 : Int) < (f : Int)) = False := by simp; omega
  by_cases h6 : 281474976710656 < ce
  · have e6 : (281474976710656 : Int) < (ce : Int) := by omega
    have HB := Lib.hid (zero _ rfl (hb.trans (show _ = false by (have : ¬ ce ≤ 281474976710656 := by omega); simp [four4, this])))
    clear hb hdl hal hrd hra zero
    go_enter Tryz.func37, Tryz.ntmps37
    go_wp2
    go_ret
    exact ⟨ret_i HB.out.symm, hbl⟩
  have e6 : ((281474976710656 : Int) < (ce : Int)) = False := by simp; omega
  by_cases h7 : 281474976710656 < a
  · have e7 : (281474976710656 : Int) < (a : Int) := by omega
    have HB := Lib.hid (zero _ rfl (hb.trans (show _ = false by (have : ¬ a ≤ 281474976710656 := by omega); simp [four4, this])))
    clear hb hdl hal hrd hra zero
    go_enter Tryz.func37, Tryz.ntmps37
    go_wp2
    go_ret
    exact ⟨ret_i HB.out.symm, hbl⟩
  have e7 : ((281474976710656 : Int) < (a : Int)) = False := by simp; omega
  by_cases h8 : 281474976710656 < l
  · have e8 : (281474976710656 : Int) < (l : Int) := by omega
    have HB := Lib.hid (zero _ rfl (hb.trans (show _ = false by (have : ¬ l ≤ 281474976710656 := by omega); simp [four4, this])))
    clear hb hdl hal hrd hra zero
    go_enter Tryz.func37, Tryz.ntmps37
    go_wp2
    go_ret
    exact ⟨ret_i HB.out.symm, hbl⟩
  have e8 : ((281474976710656 : Int) < (l : Int)) = False := by simp; omega
  have hbb : b = (dr.all isNum && ad.all isFile) := by
    have x1 : decide (m ≤ 40) = true := by simp; omega
    have x2 : decide (n ≤ 40) = true := by simp; omega
    have x3 : four4 f ce a l = true := by simp [four4]; omega
    have x4 : decide (0 ≤ g) = true := by simp; omega
    have x5 : decide (g ≤ 1073741824) = true := by simp; omega
    rw [hb, x1, x2, x3, x4, x5]
    simp
  have hg1 : b = true ↔ (∀ j (h : j < dr.length), isNum dr[j] = true) ∧ ∀ j (h : j < ad.length), isFile ad[j] = true := by
    rw [hbb, Bool.and_eq_true, List.all_eq_true, List.all_eq_true]
    constructor
    · rintro ⟨h1, h2⟩
      exact ⟨fun j h => h1 _ (List.getElem_mem h), fun j h => h2 _ (List.getElem_mem h)⟩
    · rintro ⟨h1, h2⟩
      refine ⟨fun x hx => ?_, fun x hx => ?_⟩
      · obtain ⟨j, hj, rfl⟩ := List.getElem_of_mem hx
        exact h1 j hj
      · obtain ⟨j, hj, rfl⟩ := List.getElem_of_mem hx
        exact h2 j hj
  have HG := Lib.hid hg1
  have hbad : b = false → mayI b = 1 := fun h => zero b rfl h
  have HBAD := Lib.hid hbad
  have hbx0 := BoxO.new w #[.slice D m d, .slice A n c, .int .i64 g, .int .u64 (f : Int), .int .u64 (ce : Int), .int .u64 (a : Int), .int .u64 (l : Int)] 39
  have hrd1 := (hrd.below hbl).up hbl.size
  clear hb hg1 hbb zero hbad h5 h6 h7 h8 h1 h2
  go_enter Tryz.func37, Tryz.ntmps37
  go_wp2
  generalize w.alloc (.cells #[.slice D m d, .slice A n c, .int .i64 g, .int .u64 (f : Int), .int .u64 (ce : Int), .int .u64 (a : Int), .int .u64 (l : Int)] 39) = W at *
  go_loopw [3] (fun i wr => ∃ k : Nat, k ≤ m ∧ i = .int .i64 (k : Int) ∧ Hid (∀ j (h : j < dr.length), j < k → isNum dr[j] = true) ∧ wr = W) (fun i _ => m - (intOf i).toNat)
  case atStart => exact ⟨0, Nat.zero_le _, rfl, Lib.hid (fun j h hj => by omega), rfl⟩
  case round =>
    obtain ⟨k, hk, rfl, hgd, rfl⟩ := hrel
    have q0 := hbx0.cell 0
    have q1 := hbx0.cell 1
    simp only [List.getElem?_cons_zero, List.getElem?_cons_succ] at q0 q1
    by_cases hlt : k < m
    · obtain ⟨ad1, hl, rfl, hbk, c0⟩ := hrd1.int_ hlt
      have hb1 : isNum dr[k] = false → mayI b = 1 := fun h => HBAD.out (by
        cases b with
        | false => rfl
        | true => have := (HG.out.1 rfl).1 k hl; rw [h] at this; cases this)
      have hnx : isNum dr[k] = true → ∀ j (h : j < dr.length), j < k + 1 → isNum dr[j] = true := fun e j hj hjk => by
        rcases Nat.lt_or_ge j k with h | h
        · exact hgd.out j hj h
        · obtain rfl : j = k := by omega
          exact e
      generalize dr[k] = x at *
      have H1 := Lib.hid hb1
      have H2 := Lib.hid hnx
      clear hb1 hnx hgd
      by_cases hx1 : x < 1
      · have HB := Lib.hid (H1.out (by simp [isNum]; omega))
        clear H1 H2
        go_wp2
        go_ret
        exact ⟨ret_i HB.out.symm, hbl⟩
      · by_cases hx2 : 1073741824 < x
        · have HB := Lib.hid (H1.out (by simp [isNum]; omega))
          clear H1 H2
          go_wp2
          go_ret
          exact ⟨ret_i HB.out.symm, hbl⟩
        · have H3 := Lib.hid (H2.out (by simp [isNum]; omega))
          clear H1 H2
          go_wp2
          go_roundw
          case rel => exact ⟨k + 1, by omega, by go_num, H3, trivial⟩
          case measure => simp [intOf]; omega
    · have hd1 : ∀ j (h : j < dr.length), isNum dr[j] = true := fun j h => hgd.out j h (by omega)
      have HD1 := Lib.hid hd1
      clear hd1 hgd
      go_wp2
      go_loopw [4] (fun i wr => ∃ k : Nat, k ≤ n ∧ i = .int .i64 (k : Int) ∧ Hid (∀ j (h : j < ad.length), j < k → isFile ad[j] = true) ∧ BoxO wr 39 w.heap.size [.slice D m d, .slice A n c, .int .i64 g, .int .u64 (f : Int), .int .u64 (ce : Int), .int .u64 (a : Int), .int .u64 (l : Int)] ∧ Below w.heap.size w wr) (fun i _ => n - (intOf i).toNat)
      case atStart => exact ⟨0, Nat.zero_le _, rfl, Lib.hid (fun j h hj => by omega), hbx0, hbl⟩
      case round =>
        obtain ⟨k2, hk2, rfl, hgd, hBx, hblr⟩ := hrel
        clear hbx0 hbl q1 hrd1
        have q1 := hBx.cell 1
        simp only [List.getElem?_cons_zero, List.getElem?_cons_succ] at q1
        by_cases hlt : k2 < n
        · obtain ⟨ad1, hl, rfl, hbk, c0, c1⟩ := (hra.below hblr).file hlt
          have hb1 : isFile ad[k2] = false → mayI b = 1 := fun h => HBAD.out (by
            cases b with
            | false => rfl
            | true => have := (HG.out.1 rfl).2 k2 hl; rw [h] at this; cases this)
          have hnx : isFile ad[k2] = true → ∀ j (h : j < ad.length), j < k2 + 1 → isFile ad[j] = true := fun e j hj hjk => by
            rcases Nat.lt_or_ge j k2 with h | h
            · exact hgd.out j hj h
            · obtain rfl : j = k2 := by omega
              exact e
          have hfo := fun W => fileok_any ad[k2] W
          generalize ad[k2] = x at *
          obtain ⟨x0, x1⟩ := x
          have H1 := Lib.hid hb1
          have H2 := Lib.hid hnx
          clear hb1 hnx hgd HG HBAD
          simp only at c0 c1
          cases hfk : isFile (x0, x1) with
          | false =>
            rw [hfk] at hfo
            have HB := Lib.hid (H1.out hfk)
            clear hfk H1 H2
            go_wp2_with fail
            refine (hfo _).mono ?_
            rintro e w2 ⟨rfl, hb2⟩
            have hbz := later_ hblr hb2
            clear hb2 hBx q1
            go_wp2
            go_ret
            exact ⟨ret_i HB.out.symm, hbz⟩
          | true =>
            rw [hfk] at hfo
            have H3 := Lib.hid (H2.out hfk)
            clear hfk H1 H2
            go_wp2_with fail
            refine (hfo _).mono ?_
            rintro e w2 ⟨rfl, hb2⟩
            have hbz := later_ hblr hb2
            have hBx2 := hBx.below hb2
            clear hb2 hBx q1
            go_wp2
            go_roundw
            case rel => exact ⟨k2 + 1, by omega, by go_num, H3, hBx2, hbz⟩
            case measure => simp [intOf]; omega
        · have hfin : mayI b = 0 := by
            have : b = true := HG.out.2 ⟨HD1.out, fun j h => hgd.out j h (by omega)⟩
            rw [this]
            rfl
          have HF := Lib.hid hfin
          clear hfin hgd HG HBAD
          go_wp2
          go_ret
          exact ⟨ret_i HF.out.symm, hblr⟩
end Go.Proofs.YthepokgkfaocmaaGreatDoor

/-
  Rows of changes and rows of Views in memory, as arguments and as results; the plain law of the laws' 'edits'.
-/
namespace Go.Proofs.YthepokgkfaocmaaGreatDoor
open Go Go.RowKit

theorem gflat_len {α : Type} (f : α → List Value) (sz : Nat) (hf : ∀ x, (f x).length = sz) (l : List α) : (l.flatMap f).length = l.length * sz := by
  induction l with
  | nil => simp
  | cons h t ih => rw [List.flatMap_cons, List.length_append, ih, hf, List.length_cons, Nat.add_mul]; omega
theorem gflat_get {α : Type} (f : α → List Value) (sz : Nat) (hf : ∀ x, (f x).length = sz) : ∀ (l : List α) (k j : Nat) (hk : k < l.length), j < sz → (l.flatMap f)[k * sz + j]? = (f l[k])[j]?
  | h :: t, 0, j, _, hj => by
    rw [List.flatMap_cons, List.getElem?_append_left (by rw [hf]; omega)]
    simp
  | h :: t, k + 1, j, hk, hj => by
    have e : (k + 1) * sz + j - (f h).length = k * sz + j := by rw [hf, Nat.add_mul]; omega
    rw [List.flatMap_cons, List.getElem?_append_right (by rw [hf, Nat.add_mul]; omega), e, gflat_get f sz hf t k j (by simpa using hk) hj]
    simp

/-- A change, and where its rows lie. -/
structure Ev where
  e : Ed
  D : Option Addr
  m : Nat
  d : Nat
  A : Option Addr
  n : Nat
  c : Nat
def Ev.cs (x : Ev) : List Value := x.e.cells x.D x.m x.d x.A x.n x.c
theorem Ev.cs_len (x : Ev) : x.cs.length = 7 := rfl
structure Ev.ok (B : Nat) (w : World) (x : Ev) : Prop where
  d : Row B w x.D x.m 1 (icells x.e.drop)
  a : Row B w x.A x.n 2 (fcells x.e.add)
  nc : x.n ≤ x.c
  cm : x.c ≤ maxLen
/-- A View, and where its row lies. -/
structure Vc where
  v : Vw
  A : Option Addr
  n : Nat
  c : Nat
def Vc.cs (x : Vc) : List Value := x.v.cells x.A x.n x.c
theorem Vc.cs_len (x : Vc) : x.cs.length = 6 := rfl
structure Vc.ok (B : Nat) (w : World) (x : Vc) : Prop where
  row : Row B w x.A x.n 2 (fcells x.v.files)
  nc : x.n ≤ x.c
  cm : x.c ≤ maxLen
  few : x.n ≤ 40
/-- A row of changes. -/
structure Eds (B : Nat) (w : World) (A : Option Addr) (n : Nat) (xs : List Ev) : Prop where
  row : Row B w A n 7 (xs.flatMap Ev.cs)
  ok : ∀ x ∈ xs, x.ok B w
structure Vws (B : Nat) (w : World) (A : Option Addr) (n : Nat) (xs : List Vc) : Prop where
  row : Row B w A n 6 (xs.flatMap Vc.cs)
  ok : ∀ x ∈ xs, x.ok B w
variable {B B' n : Nat} {w w' : World} {A : Option Addr} {xs : List Ev} {ys : List Vc}
theorem Ev.ok.below {x : Ev} (h : x.ok B w) (hb : Below B w w') : x.ok B w' := ⟨h.d.below hb, h.a.below hb, h.nc, h.cm⟩
theorem Ev.ok.up {x : Ev} (h : x.ok B w) (hb : B ≤ B') : x.ok B' w := ⟨h.d.up hb, h.a.up hb, h.nc, h.cm⟩
theorem Vc.ok.below {x : Vc} (h : x.ok B w) (hb : Below B w w') : x.ok B w' := ⟨h.row.below hb, h.nc, h.cm, h.few⟩
theorem Vc.ok.up {x : Vc} (h : x.ok B w) (hb : B ≤ B') : x.ok B' w := ⟨h.row.up hb, h.nc, h.cm, h.few⟩
theorem Eds.below (h : Eds B w A n xs) (hb : Below B w w') : Eds B w' A n xs := ⟨h.row.below hb, fun x hx => (h.ok x hx).below hb⟩
theorem Eds.up (h : Eds B w A n xs) (hb : B ≤ B') : Eds B' w A n xs := ⟨h.row.up hb, fun x hx => (h.ok x hx).up hb⟩
theorem Vws.below (h : Vws B w A n ys) (hb : Below B w w') : Vws B w' A n ys := ⟨h.row.below hb, fun x hx => (h.ok x hx).below hb⟩
theorem Vws.up (h : Vws B w A n ys) (hb : B ≤ B') : Vws B' w A n ys := ⟨h.row.up hb, fun x hx => (h.ok x hx).up hb⟩
theorem Eds.len (h : Eds B w A n xs) : xs.length = n := by
  have := h.row.len
  rw [gflat_len Ev.cs 7 Ev.cs_len] at this
  omega
theorem Vws.len (h : Vws B w A n ys) : ys.length = n := by
  have := h.row.len
  rw [gflat_len Vc.cs 6 Vc.cs_len] at this
  omega
/-- The change at place k, as the walk reads it. -/
structure EvAt (w : World) (a : Addr) (k : Nat) (x : Ev) : Prop where
  c0 : w.cell? (a.add (k * 7)) = some (.slice x.D x.m x.d)
  c1 : w.cell? ⟨(a.add (k * 7)).block, (a.add (k * 7)).off + 1, none⟩ = some (.slice x.A x.n x.c)
  c2 : w.cell? ⟨(a.add (k * 7)).block, (a.add (k * 7)).off + 2, none⟩ = some (.int .i64 x.e.log)
  c3 : w.cell? ⟨(a.add (k * 7)).block, (a.add (k * 7)).off + 3, none⟩ = some (.int .u64 (x.e.floor : Int))
  c4 : w.cell? ⟨(a.add (k * 7)).block, (a.add (k * 7)).off + 4, none⟩ = some (.int .u64 (x.e.cert : Int))
  c5 : w.cell? ⟨(a.add (k * 7)).block, (a.add (k * 7)).off + 5, none⟩ = some (.int .u64 (x.e.at_ : Int))
  c6 : w.cell? ⟨(a.add (k * 7)).block, (a.add (k * 7)).off + 6, none⟩ = some (.int .u64 (x.e.lease : Int))
structure VcAt (w : World) (a : Addr) (k : Nat) (x : Vc) : Prop where
  c0 : w.cell? (a.add (k * 6)) = some (.int .i64 x.v.log)
  c1 : w.cell? ⟨(a.add (k * 6)).block, (a.add (k * 6)).off + 1, none⟩ = some (.slice x.A x.n x.c)
  c2 : w.cell? ⟨(a.add (k * 6)).block, (a.add (k * 6)).off + 2, none⟩ = some (.int .u64 (x.v.floor : Int))
  c3 : w.cell? ⟨(a.add (k * 6)).block, (a.add (k * 6)).off + 3, none⟩ = some (.int .u64 (x.v.cert : Int))
  c4 : w.cell? ⟨(a.add (k * 6)).block, (a.add (k * 6)).off + 4, none⟩ = some (.int .u64 (x.v.at_ : Int))
  c5 : w.cell? ⟨(a.add (k * 6)).block, (a.add (k * 6)).off + 5, none⟩ = some (.int .u64 (x.v.lease : Int))
theorem row_cell {sz : Nat} {vs : List Value} (h : Row B w A n sz vs) {i : Nat} {v : Value} (hv : vs[i]? = some v) : ∃ a, A = some a ∧ a.block < B ∧ w.cell? (a.add i) = some v := by
  obtain ⟨hi, e⟩ := List.getElem?_eq_some_iff.1 hv
  obtain ⟨a, ea, hb, hc⟩ := h.cell i hi
  exact ⟨a, ea, hb, by rw [hc, e]⟩
theorem Eds.at_ (h : Eds B w A n xs) {k : Nat} (hk : k < n) : ∃ a, ∃ hl : k < xs.length, A = some a ∧ a.block < B ∧ EvAt w a k xs[k] ∧ (xs[k]).ok B w := by
  have hl : k < xs.length := by have := h.len; omega
  have g := fun j (hj : j < 7) => gflat_get Ev.cs 7 Ev.cs_len xs k j hl hj
  obtain ⟨a, ea, hb, c0⟩ := row_cell h.row (g 0 (by omega))
  have cc : ∀ j v, j < 7 → (Ev.cs xs[k])[j]? = some v → w.cell? (a.add (k * 7 + j)) = some v := fun j v hj hv => by
    obtain ⟨a', ea', _, c⟩ := row_cell h.row ((g j hj).trans hv)
    rw [ea] at ea'
    injection ea' with ea'
    subst ea'
    exact c
  have cd : ∀ j v, 0 < j → j < 7 → (Ev.cs xs[k])[j]? = some v → w.cell? ⟨(a.add (k * 7)).block, (a.add (k * 7)).off + j, none⟩ = some v := fun j v h0 hj hv => by
    rw [← fadd_at a (k * 7) h0]
    exact cc j v hj hv
  exact ⟨a, hl, ea, hb, ⟨c0, cd 1 _ (by omega) (by omega) rfl, cd 2 _ (by omega) (by omega) rfl, cd 3 _ (by omega) (by omega) rfl, cd 4 _ (by omega) (by omega) rfl, cd 5 _ (by omega) (by omega) rfl, cd 6 _ (by omega) (by omega) rfl⟩, h.ok _ (List.getElem_mem hl)⟩
theorem Vws.at_ (h : Vws B w A n ys) {k : Nat} (hk : k < n) : ∃ a, ∃ hl : k < ys.length, A = some a ∧ a.block < B ∧ VcAt w a k ys[k] ∧ (ys[k]).ok B w := by
  have hl : k < ys.length := by have := h.len; omega
  have g := fun j (hj : j < 6) => gflat_get Vc.cs 6 Vc.cs_len ys k j hl hj
  obtain ⟨a, ea, hb, c0⟩ := row_cell h.row (g 0 (by omega))
  have cc : ∀ j v, j < 6 → (Vc.cs ys[k])[j]? = some v → w.cell? (a.add (k * 6 + j)) = some v := fun j v hj hv => by
    obtain ⟨a', ea', _, c⟩ := row_cell h.row ((g j hj).trans hv)
    rw [ea] at ea'
    injection ea' with ea'
    subst ea'
    exact c
  have cd : ∀ j v, 0 < j → j < 6 → (Vc.cs ys[k])[j]? = some v → w.cell? ⟨(a.add (k * 6)).block, (a.add (k * 6)).off + j, none⟩ = some v := fun j v h0 hj hv => by
    rw [← fadd_at a (k * 6) h0]
    exact cc j v hj hv
  exact ⟨a, hl, ea, hb, ⟨c0, cd 1 _ (by omega) (by omega) rfl, cd 2 _ (by omega) (by omega) rfl, cd 3 _ (by omega) (by omega) rfl, cd 4 _ (by omega) (by omega) rfl, cd 5 _ (by omega) (by omega) rfl⟩, h.ok _ (List.getElem_mem hl)⟩
theorem EvAt.keep {a : Addr} {k : Nat} {x : Ev} (h : EvAt w a k x) (hc : ∀ p : Addr, p.block = a.block → w'.cell? p = w.cell? p) : EvAt w' a k x := by
  have e := add_block a (k * 7)
  exact ⟨(hc _ e).trans h.c0, (hc ⟨(a.add (k * 7)).block, _, none⟩ e).trans h.c1, (hc ⟨(a.add (k * 7)).block, _, none⟩ e).trans h.c2, (hc ⟨(a.add (k * 7)).block, _, none⟩ e).trans h.c3, (hc ⟨(a.add (k * 7)).block, _, none⟩ e).trans h.c4, (hc ⟨(a.add (k * 7)).block, _, none⟩ e).trans h.c5, (hc ⟨(a.add (k * 7)).block, _, none⟩ e).trans h.c6⟩
theorem EvAt.below {a : Addr} {k : Nat} {x : Ev} (h : EvAt w a k x) (ha : a.block < B) (hb : Below B w w') : EvAt w' a k x := h.keep fun p hp => hb.cell (by omega)

/-- The good changes so far, and the Views that they make, in rows that the call owns. -/
structure Edz (b0 base : Nat) (w : World) (gv ov : Value) (gs : List Ev) (vs : List Vc) : Prop where
  good : w.ownsRow base 39 7 gv gs.length (gs.flatMap Ev.cs)
  out : w.ownsRow base 31 6 ov vs.length (vs.flatMap Vc.cs)
  ge : ∀ x ∈ gs, x.ok b0 w
  ve : ∀ y ∈ vs, y.ok w.heap.size w ∧ ∀ j, j < (fcells y.v.files).length → ∀ a, y.A = some a → some a.block ≠ gv.ownBlock ∧ some a.block ≠ ov.ownBlock ∧ base ≤ a.block
  sep : ∀ g, gv.ownBlock = some g → ov.ownBlock ≠ some g
variable {b0 base : Nat} {gv ov gv' ov' : Value} {gs : List Ev} {vs : List Vc}
theorem Edz.below (h : Edz b0 base w gv ov gs vs) (hb : Below w.heap.size w w') (hB : b0 ≤ w.heap.size) : Edz b0 base w' gv ov gs vs :=
  ⟨own_below h.good hb, own_below h.out hb, fun x hx => (h.ge x hx).below (hb.mono hB), fun y hy => ⟨((h.ve y hy).1.below hb).up hb.size, (h.ve y hy).2⟩, h.sep⟩
/-- A block ahead of all that the call owns has changed. -/
theorem Edz.chg {g : Nat} (h : Edz b0 base w gv ov gs vs) (c : Chg [g] w w') (h0 : b0 ≤ g) (hg : g < base) (hB : b0 ≤ w.heap.size) : Edz b0 base w' gv ov gs vs :=
  ⟨own_chg h.good c (fun b hb hm => by have := (h.good.lt b hb).1; simp at hm; omega), own_chg h.out c (fun b hb hm => by have := (h.out.lt b hb).1; simp at hm; omega),
    fun x hx => (h.ge x hx).below (c.below hB (by simp; omega)), fun y hy => by
      obtain ⟨h1, h2⟩ := h.ve y hy
      exact ⟨⟨(row_chg c h1.row (Nat.le_refl _) (fun j hj a ha hm => by have := (h2 j hj a ha).2.2; simp at hm; omega)).up c.size, h1.nc, h1.cm, h1.few⟩, h2⟩, h.sep⟩
theorem row_grow {B n size : Nat} {xs : List Value} {r : Option Nat} (h : Row B w A n size xs) (hg : w.grownBy w' r) (hne : ∀ j, j < xs.length → ∀ a, A = some a → some a.block ≠ r) : Row B w' A n size xs :=
  ⟨h.len, fun j hj => let ⟨a, e, b, c⟩ := h.cell j hj; ⟨a, e, b, hg.cell c (by rw [add_block]; exact hne j hj a e)⟩⟩
theorem row_lt {B n size : Nat} {xs : List Value} (h : Row B w A n size xs) {j : Nat} (hj : j < xs.length) {a : Addr} (ha : A = some a) : a.block < B := by
  obtain ⟨a', e, b, _⟩ := h.cell j hj
  rw [ha] at e
  injection e with e
  subst e
  exact b
theorem Edz.addE {x : Ev} (h : Edz b0 base w gv ov gs vs) (hB0 : b0 ≤ base) (hB : base ≤ w.heap.size) (hx : x.ok b0 w) (hg : w.grownBy w' gv.ownBlock) (ho : w'.ownsRow base 39 7 gv' (gs.length + 1) ((gs ++ [x]).flatMap Ev.cs)) (hv : gv'.ownBlock = gv.ownBlock ∨ gv'.ownBlock = some w.heap.size) : Edz b0 base w' gv' ov (gs ++ [x]) vs := by
  have hlt : ∀ g, ov.ownBlock = some g → g < w.heap.size := fun g e => (h.out.lt g e).2
  have hne : ov.ownBlock = none ∨ ov.ownBlock ≠ gv.ownBlock := by
    cases e : ov.ownBlock with
    | none => exact .inl rfl
    | some g => exact .inr fun e2 => h.sep g e2.symm e
  have hb : Below b0 w w' := ((Below.refl base w).grown hg hB (fun b hb => (h.good.lt b hb).1)).mono hB0
  refine ⟨by simpa using ho, h.out.kept hg hne, fun y hy => ?_, fun y hy => ⟨?_, fun j hj a ha => ?_⟩, fun g hg2 hb2 => ?_⟩
  · rcases List.mem_append.1 hy with h1 | h1
    · exact (h.ge y h1).below hb
    · rw [List.mem_singleton.1 h1]
      exact hx.below hb
  · obtain ⟨h1, h2⟩ := h.ve y hy
    exact ⟨(row_grow h1.row hg (fun j hj a ha => (h2 j hj a ha).1)).up hg.size, h1.nc, h1.cm, h1.few⟩
  · obtain ⟨h1, h2⟩ := h.ve y hy
    exact ⟨own_step hv (row_lt h1.row hj ha) (h2 j hj a ha).1, (h2 j hj a ha).2⟩
  · exact own_step hv (hlt g hb2) (fun e => h.sep g e.symm hb2) hg2.symm
theorem Edz.addV {y : Vc} (h : Edz b0 base w gv ov gs vs) (hB0 : b0 ≤ base) (hB : base ≤ w.heap.size) (hy : y.ok w.heap.size w) (hya : ∀ j, j < (fcells y.v.files).length → ∀ a, y.A = some a → some a.block ≠ gv.ownBlock ∧ some a.block ≠ ov.ownBlock ∧ base ≤ a.block) (hg : w.grownBy w' ov.ownBlock) (ho : w'.ownsRow base 31 6 ov' (vs.length + 1) ((vs ++ [y]).flatMap Vc.cs)) (hv : ov'.ownBlock = ov.ownBlock ∨ ov'.ownBlock = some w.heap.size) : Edz b0 base w' gv ov' gs (vs ++ [y]) := by
  have hlt : ∀ g, gv.ownBlock = some g → g < w.heap.size := fun g e => (h.good.lt g e).2
  have hne : gv.ownBlock = none ∨ gv.ownBlock ≠ ov.ownBlock := by
    cases e : gv.ownBlock with
    | none => exact .inl rfl
    | some g => exact .inr fun e2 => h.sep g e e2.symm
  have hb : Below b0 w w' := ((Below.refl base w).grown hg hB (fun b hb => (h.out.lt b hb).1)).mono hB0
  have all : ∀ z ∈ vs ++ [y], z.ok w.heap.size w ∧ ∀ j, j < (fcells z.v.files).length → ∀ a, z.A = some a → some a.block ≠ gv.ownBlock ∧ some a.block ≠ ov.ownBlock ∧ base ≤ a.block := fun z hz => by
    rcases List.mem_append.1 hz with h1 | h1
    · exact h.ve z h1
    · rw [List.mem_singleton.1 h1]; exact ⟨hy, hya⟩
  refine ⟨h.good.kept hg hne, by simpa using ho, fun z hz => (h.ge z hz).below hb, fun z hz => ⟨?_, fun j hj a ha => ?_⟩, fun g hg2 hb2 => ?_⟩
  · obtain ⟨h1, h2⟩ := all z hz
    exact ⟨(row_grow h1.row hg (fun j hj a ha => (h2 j hj a ha).2.1)).up hg.size, h1.nc, h1.cm, h1.few⟩
  · obtain ⟨h1, h2⟩ := all z hz
    exact ⟨(h2 j hj a ha).1, own_step hv (row_lt h1.row hj ha) (h2 j hj a ha).2.1, (h2 j hj a ha).2.2⟩
  · exact own_step hv (hlt g hg2) (fun e => h.sep g hg2 e.symm) hb2.symm

/-- Changes that may follow one another, and the View behind each. -/
structure GChain (es : List Ed) (vs : List Vw) : Prop where
  len : vs.length = es.length + 1
  one : vs[0]? = some v1g
  step : ∀ i (h : i < es.length), (es[i]).may = true ∧ ∃ u v, vs[i]? = some u ∧ vs[i + 1]? = some v ∧ u.app es[i] = some v
theorem GChain.start : GChain [] [v1g] := ⟨rfl, rfl, fun i h => by simp at h⟩
theorem GChain.snoc {es : List Ed} {vs : List Vw} {e : Ed} {u v : Vw} (h : GChain es vs) (he : e.may = true) (hu : vs[es.length]? = some u) (hv : u.app e = some v) : GChain (es ++ [e]) (vs ++ [v]) := by
  have hl := h.len
  refine ⟨by simp [hl], by rw [List.getElem?_append_left (by omega)]; exact h.one, fun i hi => ?_⟩
  rcases Nat.lt_or_ge i es.length with h1 | h1
  · obtain ⟨a, u', v', b, c, d⟩ := h.step i h1
    rw [List.getElem_append_left h1]
    exact ⟨a, u', v', by rw [List.getElem?_append_left (by omega)]; exact b, by rw [List.getElem?_append_left (by omega)]; exact c, d⟩
  · have e1 : i = es.length := by simp at hi; omega
    subst e1
    have e2 : (es ++ [e])[es.length]'(by simp) = e := by simp
    rw [e2]
    exact ⟨he, u, v, by rw [List.getElem?_append_left (by omega)]; exact hu, by rw [List.getElem?_append_right (by omega), hl]; simp, hv⟩
end Go.Proofs.YthepokgkfaocmaaGreatDoor

/-
  The walk of edit.Views, for any bytes.
-/
namespace Go.Proofs.YthepokgkfaocmaaGreatDoor
open Go Go.RowKit

namespace Fr
theorem splitF_same : ∀ (f : Nat) (l : List UInt8) (e : Nat) (ks : List Nat) (bs : List (List UInt8)), ks.length = bs.length → (splitF f l e ks bs).1.length = (splitF f l e ks bs).2.1.length
  | 0, _, _, _, _, h => h
  | f + 1, l, e, ks, bs, h => by
    rw [splitF]
    split
    · split
      · exact splitF_same f l _ _ _ (by simp [h])
      · exact h
    · exact h
theorem take_len (l : List UInt8) (p : Nat) : (take l p).2.1.length ≤ 60000 := by
  unfold take
  split
  · simp
  · split
    · simp
    · split
      · simp
      · split
        · simp
        · split
          · simp
          · simp only [List.length_take]
            omega
theorem splitF_len : ∀ (f : Nat) (l : List UInt8) (e : Nat) (ks : List Nat) (bs : List (List UInt8)), (∀ b ∈ bs, b.length ≤ 60000) → ∀ b ∈ (splitF f l e ks bs).2.1, b.length ≤ 60000
  | 0, _, _, _, _, h => h
  | f + 1, l, e, ks, bs, h => by
    rw [splitF]
    split
    · split
      · refine splitF_len f l _ _ _ (fun b hb => ?_)
        rcases List.mem_append.1 hb with h1 | h1
        · exact h b h1
        · rw [List.mem_singleton.1 h1]
          exact take_len l e
      · exact h
    · exact h
theorem split_same (l : List UInt8) : (split l).1.length = (split l).2.1.length := splitF_same _ l 0 [] [] rfl
theorem split_len (l : List UInt8) : ∀ b ∈ (split l).2.1, b.length ≤ 60000 := splitF_len _ l 0 [] [] (fun b hb => by cases hb)
theorem splitF_many : ∀ (f : Nat) (l : List UInt8) (e : Nat) (ks : List Nat) (bs : List (List UInt8)), e ≤ l.length → bs.length * 12 ≤ e → (splitF f l e ks bs).2.1.length * 12 ≤ l.length
  | 0, l, e, ks, bs, h1, h2 => by rw [splitF]; simp only; omega
  | f + 1, l, e, ks, bs, h1, h2 => by
    rw [splitF]
    split
    · split
      · rename_i he
        obtain ⟨h3, h4⟩ := take_next he
        exact splitF_many f l _ _ _ h4 (by simp; omega)
      · simp only; omega
    · simp only; omega
theorem split_many (l : List UInt8) : (split l).2.1.length * 12 ≤ l.length := splitF_many _ l 0 [] [] (Nat.zero_le _) (by simp)
end Fr

/-- What Views gives. -/
def VwPost (w : World) (o : Option (Vw × Nat × Nat)) (x : Ending) (w' : World) : Prop := Below w.heap.size w w' ∧ match o with
  | none => x = .returned (.tuple #[Vw.none_.val none 0 0, .int .i64 0, .int .i64 0, .int .i64 9])
  | some (v, k, stop) => ∃ A n c, x = .returned (.tuple #[v.val A n c, .int .i64 (k : Int), .int .i64 (stop : Int), .int .i64 0]) ∧ n ≤ 40 ∧ Fresh w.heap.size w' A n c v.files
theorem Vw.app_few {v u : Vw} {e : Ed} (h : v.app e = some u) : u.files.length ≤ 40 := by
  have := Vw.app_ok h
  simp only [Vw.ok, Bool.and_eq_true, decide_eq_true_eq] at this
  omega

set_option maxRecDepth 100000 in
set_option maxHeartbeats 4000000 in
theorem views_gen (A : Option Addr) (N c0 : Nat) (t : List UInt8) (w : World) (hN : N ≤ 100000000) (hNc : N ≤ c0) (hc : c0 ≤ maxLen) (hr : Row w.heap.size w A N 1 (bts t)) :
    Calls Tryz.prog 83 #[.slice A N c0] w (VwPost w (Vw.views t)) := by
  have hsp := fun W (hW : Row W.heap.size W A N 1 (bts t)) => split_any A N c0 t W (by omega) hNc hc hW
  have hsame := Fr.split_same t
  have hlen := Fr.split_len t
  have hmany := Fr.split_many t
  have hbl := hr.btlen
  have hview : Vw.views t = if ((Fr.split t).2.2.2 ≠ 0 ∧ (Fr.split t).2.2.2 ≠ 4) ∨ (Fr.split t).2.1 = [] then none else (Vw.steps ((Fr.split t).1.zip (Fr.split t).2.1)).map fun v => (v, (Fr.split t).2.1.length, (Fr.split t).2.2.1) := rfl
  generalize Vw.views t = R at *
  generalize Fr.split t = sp at *
  obtain ⟨ks, bs, stop, er⟩ := sp
  simp only at hsp hsame hlen hview hmany
  have HSP := Lib.hid hsp
  have HLEN := Lib.hid hlen
  have HVIEW := Lib.hid hview
  have HR := Lib.hid hr
  clear hsp hlen hview hr
  go_enter Tryz.func83, Tryz.ntmps83
  go_wp2_with fail
  refine (HSP.out _ ((HR.out.alloc (Nat.le_refl _) _).up (by simp))).mono ?_
  rintro e w1 ⟨kv, bv, rfl, hbods, hb1⟩
  have hV0 := BoxO.new w #[.int .i64 0, .slice none 0 0, .int .u64 0, .int .u64 0, .int .u64 0, .int .u64 0] 31
  have hV := hV0.below hb1
  have hb := later_ ((Below.refl w.heap.size w).alloc (Nat.le_refl _) _) hb1
  simp only [World.size_alloc] at hbods
  clear hb1 hV0 HSP HR
  have zero : ∀ (W : World), Below w.heap.size w W → R = none → VwPost w R (.returned (.tuple #[.agg #[.int .i64 0, .slice none 0 0, .int .u64 0, .int .u64 0, .int .u64 0, .int .u64 0], .int .i64 0, .int .i64 0, .int .i64 9])) ((((((W.setCell ⟨w.heap.size, 0, none⟩ (.int .i64 0)).setCell ⟨w.heap.size, 1, none⟩ (.slice none 0 0)).setCell ⟨w.heap.size, 2, none⟩ (.int .u64 0)).setCell ⟨w.heap.size, 3, none⟩ (.int .u64 0)).setCell ⟨w.heap.size, 4, none⟩ (.int .u64 0)).setCell ⟨w.heap.size, 5, none⟩ (.int .u64 0)) := by
    intro W hbW hR
    rw [hR]
    exact ⟨(((((hbW.setCell (by simp) _).setCell (by simp) _).setCell (by simp) _).setCell (by simp) _).setCell (by simp) _).setCell (by simp) _, rfl⟩
  have HZ := Lib.hid zero
  clear zero
  obtain ⟨vs, hvs, -⟩ := hbods.row
  obtain ⟨Ak, kc, hkv, -⟩ := own_form hbods.kinds
  obtain ⟨Ab, bc, hbv, -⟩ := own_form hvs
  subst hkv hbv
  rw [hsame] at hbods ⊢
  obtain ⟨n, hn⟩ : ∃ n, bs.length = n := ⟨_, rfl⟩
  rw [hn] at hbods hmany ⊢
  have hnN : n * 12 ≤ N := by omega
  clear hvs
  have v0 := hV.cell 0
  have v1 := hV.cell 1
  have v2 := hV.cell 2
  have v3 := hV.cell 3
  have v4 := hV.cell 4
  have v5 := hV.cell 5
  have y0 := hV.free 0
  have y1 := hV.free 1
  have y2 := hV.free 2
  have y3 := hV.free 3
  have y4 := hV.free 4
  have y5 := hV.free 5
  simp only [List.getElem?_cons_zero, List.getElem?_cons_succ] at v0 v1 v2 v3 v4 v5
  by_cases her : er ≠ 0 ∧ er ≠ 4
  · have e1 : ((er : Int) == 0) = false := by simp; omega
    have e2 : ((er : Int) == 4) = false := by simp; omega
    have HB := Lib.hid (HVIEW.out.trans (if_pos (.inl her)))
    clear her hbods HVIEW HLEN
    go_wp2
    refine bodyPost_ret (v := .tuple #[.agg #[.int .i64 0, .slice none 0 0, .int .u64 0, .int .u64 0, .int .u64 0, .int .u64 0], .int .i64 0, .int .i64 0, .int .i64 9]) (by simp [results, go_sem, *]) rfl ?_
    exact HZ.out w1 hb HB.out
  by_cases hn0 : n = 0
  · subst hn0
    have HB := Lib.hid (HVIEW.out.trans (if_pos (.inr (List.eq_nil_of_length_eq_zero hn))))
    clear hbods HVIEW HLEN
    have her' : er = 0 ∨ er = 4 := by omega
    rcases her' with rfl | rfl
    all_goals
      go_wp2
      refine bodyPost_ret (v := .tuple #[.agg #[.int .i64 0, .slice none 0 0, .int .u64 0, .int .u64 0, .int .u64 0, .int .u64 0], .int .i64 0, .int .i64 0, .int .i64 9]) (by simp [results, go_sem, *]) rfl ?_
      exact HZ.out w1 hb HB.out
  have hRv := HVIEW.out.trans (if_neg (by
    simp only [not_or]
    exact ⟨her, fun e => hn0 (by rw [← hn, e]; rfl)⟩))
  obtain ⟨Z, hZ⟩ : ∃ Z, Z = ks.zip bs := ⟨_, rfl⟩
  rw [← hZ, hn] at hRv
  have hZn : Z.length = n := by rw [hZ, List.length_zip]; omega
  obtain ⟨gk, gb, kc', bc', ek, eb⟩ := bods_form hbods hsame (by omega)
  rw [hn] at ek eb
  injection ek with ek _ ek2
  injection eb with eb _ eb2
  subst ek ek2 eb eb2
  have her' : er = 0 ∨ er = 4 := by omega
  have hnz : ((n : Int) == 0) = false := by simp; omega
  have HRV := Lib.hid hRv
  have HZZ := Lib.hid hZ
  clear hRv hZ HVIEW her v0 v1 v2 v3 v4 v5 y0 y1 y2 y3 y4 y5
  rcases her' with rfl | rfl
  all_goals
    go_wp2
    go_loopw [4, 35] (fun st i wr => ∃ (k : Nat) (v : Vw) (A1 : Option Addr) (m1 c1 : Nat), k ≤ n ∧ st = .int .i64 (stop : Int) ∧ i = .int .i64 (k : Int) ∧ m1 ≤ 40 ∧ BoxO wr 31 w.heap.size (v.cells A1 m1 c1) ∧ Fresh (w.heap.size + 1) wr A1 m1 c1 v.files ∧ Hid (Vw.steps (Z.take k) = some v) ∧ Chg [w.heap.size] w1 wr) (fun _ i _ => n - (intOf i).toNat)
    case atStart => exact ⟨0, Vw.none_, none, 0, 0, Nat.zero_le _, rfl, rfl, by omega, hV, ⟨Row.nil_, Nat.le_refl _, Nat.zero_le _, fun a h => by cases h⟩, Lib.hid rfl, Chg.refl _ _⟩
    case round =>
      obtain ⟨k, v, A1, m1, c1, hk, rfl, rfl, hm1, hBx, hfr, hst, hchg⟩ := hrel
      have hbodr := hbods.chg hchg (by omega)
      by_cases hlt : k < n
      · obtain ⟨x, Ab, Mb, cb, hxk, d1, d2, hMb, hrow⟩ := bods_at hbodr hsame (k := k) (by omega)
        have hkl : k < bs.length := by omega
        have hzk : Z[k]'(by omega) = (x, bs[k]) := by
          have hx := List.getElem?_eq_some_iff.1 hxk
          simp only [HZZ.out, List.getElem_zip, hx.2]
        have hstep := Vw.steps_take (l := Z) (k := k) (by omega)
        rw [hzk, hst.out] at hstep
        have hbad : Vw.step (some v) (x, bs[k]) = none → R = none := fun h => by
          rw [HRV.out, Vw.steps_stop (hstep.trans h)]
          rfl
        have hlen1 := HLEN.out bs[k] (List.getElem_mem hkl)
        have hMl := hrow.btlen
        have hstp : ∀ (P : Ed × Nat), P = Ed.read bs[k] → Vw.step (some v) (x, bs[k]) = if P.2 = 0 ∧ x = 6 then v.app P.1 else none := fun P hP => by subst hP; rfl
        have hrd := eread_gen Ab Mb cb bs[k] wr (by omega) hMb hrow
        have hmay := @Ed.read_may bs[k]
        generalize Ed.read bs[k] = P at *
        obtain ⟨ee, re⟩ := P
        have hsp := hstp _ rfl
        rw [hsp] at hbad hstep
        simp only at hbad hstep
        have HBAD := Lib.hid hbad
        have HSTEP := Lib.hid hstep
        clear hst hxk hzk hstp hsp hbad hstep hlen1 hMl hrow hkl HLEN
        go_wp2_with fail
        refine hrd.mono ?_
        rintro e w2 ⟨Dd, md, dd, Aa, na, ca, rfl, hrD, hrA, -, -, hb2⟩
        simp only at hrD hrA
        unfold Ed.val
        simp only
        have hbE := (Below.refl w2.heap.size w2).alloc (Nat.le_refl _) (.cells #[.slice Dd md dd, .slice Aa na ca, .int .i64 ee.log, .int .u64 (ee.floor : Int), .int .u64 (ee.cert : Int), .int .u64 (ee.at_ : Int), .int .u64 (ee.lease : Int)] 39)
        have hbx := BoxO.new w2 #[.slice Dd md dd, .slice Aa na ca, .int .i64 ee.log, .int .u64 (ee.floor : Int), .int .u64 (ee.cert : Int), .int .u64 (ee.at_ : Int), .int .u64 (ee.lease : Int)] 39
        simp only at hbx
        have hb2E := later_ hb2 hbE
        have hBE := hBx.below hb2E
        have hfrE := hfr.below hb2E
        have hrDE := (hrD.below hbE).up hbE.size
        have hrAE := (hrA.below hbE).up hbE.size
        have hcE : Chg [w.heap.size] w1 (w2.alloc (.cells #[.slice Dd md dd, .slice Aa na ca, .int .i64 ee.log, .int .u64 (ee.floor : Int), .int .u64 (ee.cert : Int), .int .u64 (ee.at_ : Int), .int .u64 (ee.lease : Int)] 39)) := hchg.trans (Chg.of_below hb2E []) (fun g hg => by cases hg)
        have hbwE := hb.trans (hcE.below hb.size (by simp))
        have hk2 : (w2.alloc (.cells #[.slice Dd md dd, .slice Aa na ca, .int .i64 ee.log, .int .u64 (ee.floor : Int), .int .u64 (ee.cert : Int), .int .u64 (ee.at_ : Int), .int .u64 (ee.lease : Int)] 39)).cell? ⟨gk, k, none⟩ = some (.int .i64 (x : Int)) := (World.cell?_of_block (hb2E.block gk (lt_of_cell d1))).trans d1
        go_upto_region 8 with (fail)
        generalize w2.alloc (.cells #[.slice Dd md dd, .slice Aa na ca, .int .i64 ee.log, .int .u64 (ee.floor : Int), .int .u64 (ee.cert : Int), .int .u64 (ee.at_ : Int), .int .u64 (ee.lease : Int)] 39) = VE at *
        generalize w2.heap.size = ge at *
        clear d1 d2 hb2 hb2E hbE hBx hchg hbodr hMb hrd hfr hrD hrA
        have hgk2 := lt_of_cell hk2
        have o0 := hBE.cell 0
        have z0 := hBE.free 0
        have o1 := hBE.cell 1
        have z1 := hBE.free 1
        have o2 := hBE.cell 2
        have z2 := hBE.free 2
        have o3 := hBE.cell 3
        have z3 := hBE.free 3
        have o4 := hBE.cell 4
        have z4 := hBE.free 4
        have o5 := hBE.cell 5
        have z5 := hBE.free 5
        simp only [Vw.cells, List.getElem?_cons_zero, List.getElem?_cons_succ] at o0 o1 o2 o3 o4 o5
        have b0 := hbx.cell 0
        have b1 := hbx.cell 1
        have b2 := hbx.cell 2
        have b3 := hbx.cell 3
        have b4 := hbx.cell 4
        have b5 := hbx.cell 5
        have b6 := hbx.cell 6
        simp only [List.getElem?_cons_zero, List.getElem?_cons_succ] at b0 b1 b2 b3 b4 b5 b6
        by_cases hre : re = 0
        case neg =>
          have e1 : ((re : Int) == 0) = false := by simp; omega
          have HB := Lib.hid (HBAD.out (if_neg (fun h => hre h.1)))
          clear HSTEP HBAD hre hrDE hrAE hcE hBE hfrE
          go_wp2
          refine bodyPost_ret (v := .tuple #[.agg #[.int .i64 0, .slice none 0 0, .int .u64 0, .int .u64 0, .int .u64 0, .int .u64 0], .int .i64 0, .int .i64 0, .int .i64 9]) (by simp [results, go_sem, *]) rfl ?_
          exact HZ.out VE hbwE HB.out
        subst hre
        by_cases hx6 : x = 6
        case neg =>
          have e1 : ((x : Int) == 6) = false := by simp; omega
          have HB := Lib.hid (HBAD.out (if_neg (fun h => hx6 h.2)))
          clear HSTEP HBAD hx6 hrDE hrAE hcE hBE hfrE
          go_wp2
          refine bodyPost_ret (v := .tuple #[.agg #[.int .i64 0, .slice none 0 0, .int .u64 0, .int .u64 0, .int .u64 0, .int .u64 0], .int .i64 0, .int .i64 0, .int .i64 9]) (by simp [results, go_sem, *]) rfl ?_
          exact HZ.out VE hbwE HB.out
        subst hx6
        simp only [and_self, if_true] at HBAD HSTEP
        have hm := may_parts (hmay rfl)
        have hdl := hrDE.ilen
        have hal := hrAE.flen
        have hmd : md ≤ 40 := by omega
        have hna : na ≤ 40 := by omega
        clear hm hdl hal hmay
        have hap := apply_gen v A1 m1 c1 ee Dd md dd Aa na ca VE (by omega) (by omega) (by omega) hfrE.row hrDE hrAE
        unfold Ed.val Vw.val at hap
        cases hva : v.app ee with
        | none =>
          rw [hva] at hap
          have HB := Lib.hid (HBAD.out hva)
          have HAP := Lib.hid hap
          clear hap hva HBAD HSTEP hfrE hrAE hrDE hcE
          go_wp2_with fail
          refine HAP.out.mono ?_
          rintro e w3 ⟨hb3, hx⟩
          simp only [Vw.none_, Vw.val] at hx
          subst hx
          have hV3 := (later_ hbwE hb3).alloc (later_ hbwE hb3).size (.cells #[.int .i64 0, .slice none 0 0, .int .u64 0, .int .u64 0, .int .u64 0, .int .u64 0] 31)
          have hB3 := (hBE.below hb3).alloc (.cells #[.int .i64 0, .slice none 0 0, .int .u64 0, .int .u64 0, .int .u64 0, .int .u64 0] 31)
          go_upto_region 11 with (fail)
          generalize w3.alloc (.cells #[.int .i64 0, .slice none 0 0, .int .u64 0, .int .u64 0, .int .u64 0, .int .u64 0] 31) = V3 at *
          clear hbwE hBE hb3 o0 o1 o2 o3 o4 o5 z0 z1 z2 z3 z4 z5 b0 b1 b2 b3 b4 b5 b6
          have o0 := hB3.cell 0
          have z0 := hB3.free 0
          have o1 := hB3.cell 1
          have z1 := hB3.free 1
          have o2 := hB3.cell 2
          have z2 := hB3.free 2
          have o3 := hB3.cell 3
          have z3 := hB3.free 3
          have o4 := hB3.cell 4
          have z4 := hB3.free 4
          have o5 := hB3.cell 5
          have z5 := hB3.free 5
          simp only [Vw.cells, List.getElem?_cons_zero, List.getElem?_cons_succ] at o0 o1 o2 o3 o4 o5
          clear hB3
          go_wp2
          refine bodyPost_ret (v := .tuple #[.agg #[.int .i64 0, .slice none 0 0, .int .u64 0, .int .u64 0, .int .u64 0, .int .u64 0], .int .i64 0, .int .i64 0, .int .i64 9]) (by simp [results, go_sem, *]) rfl ?_
          exact HZ.out V3 hV3 HB.out
        | some u =>
          have hu40 := Vw.app_few hva
          rw [hva] at hap HSTEP
          have HAP := Lib.hid hap
          clear hap hva HBAD hrAE hrDE
          go_wp2_with fail
          refine HAP.out.mono ?_
          rintro e w3 ⟨hb3, A3, n3, c3, rfl, hfr3⟩
          unfold Vw.val
          have hB3 := (hBE.below hb3).alloc (.cells #[.int .i64 u.log, .slice A3 n3 c3, .int .u64 (u.floor : Int), .int .u64 (u.cert : Int), .int .u64 (u.at_ : Int), .int .u64 (u.lease : Int)] 31)
          have hc3 := (hcE.trans (Chg.of_below hb3 []) (fun g hg => by cases hg)).alloc (.cells #[.int .i64 u.log, .slice A3 n3 c3, .int .u64 (u.floor : Int), .int .u64 (u.cert : Int), .int .u64 (u.at_ : Int), .int .u64 (u.lease : Int)] 31)
          have hbxu := BoxO.new w3 #[.int .i64 u.log, .slice A3 n3 c3, .int .u64 (u.floor : Int), .int .u64 (u.cert : Int), .int .u64 (u.at_ : Int), .int .u64 (u.lease : Int)] 31
          simp only at hbxu
          have hfr4 := (hfr3.base hbwE.size).below ((Below.refl w3.heap.size w3).alloc (Nat.le_refl _) (.cells #[.int .i64 u.log, .slice A3 n3 c3, .int .u64 (u.floor : Int), .int .u64 (u.cert : Int), .int .u64 (u.at_ : Int), .int .u64 (u.lease : Int)] 31))
          have hlow4 := fun a ha => hfr3.low a ha
          have hltE := hBE.lt
          have hlt3 := hb3.size
          go_upto_region 11 with (fail)
          generalize w3.alloc (.cells #[.int .i64 u.log, .slice A3 n3 c3, .int .u64 (u.floor : Int), .int .u64 (u.cert : Int), .int .u64 (u.at_ : Int), .int .u64 (u.lease : Int)] 31) = V3 at *
          generalize w3.heap.size = gu at *
          clear hbwE hBE hb3 hcE hfr3 o0 o1 o2 o3 o4 o5 z0 z1 z2 z3 z4 z5 b0 b1 b2 b3 b4 b5 b6
          have o0 := hB3.cell 0
          have z0 := hB3.free 0
          have o1 := hB3.cell 1
          have z1 := hB3.free 1
          have o2 := hB3.cell 2
          have z2 := hB3.free 2
          have o3 := hB3.cell 3
          have z3 := hB3.free 3
          have o4 := hB3.cell 4
          have z4 := hB3.free 4
          have o5 := hB3.cell 5
          have z5 := hB3.free 5
          simp only [Vw.cells, List.getElem?_cons_zero, List.getElem?_cons_succ] at o0 o1 o2 o3 o4 o5
          have u0 := hbxu.cell 0
          have u1 := hbxu.cell 1
          have u2 := hbxu.cell 2
          have u3 := hbxu.cell 3
          have u4 := hbxu.cell 4
          have u5 := hbxu.cell 5
          simp only [List.getElem?_cons_zero, List.getElem?_cons_succ] at u0 u1 u2 u3 u4 u5
          have hBz := ((((((hB3.store 0 (.int .i64 u.log)).store 1 (.slice A3 n3 c3)).store 2 (.int .u64 (u.floor : Int))).store 3 (.int .u64 (u.cert : Int))).store 4 (.int .u64 (u.at_ : Int))).store 5 (.int .u64 (u.lease : Int)))
          have hCz := ((((((Chg.refl [w.heap.size] V3).setCell (p := ⟨w.heap.size, 0, none⟩) (.int .i64 u.log) (.inl (by simp))).setCell (p := ⟨w.heap.size, 1, none⟩) (.slice A3 n3 c3) (.inl (by simp))).setCell (p := ⟨w.heap.size, 2, none⟩) (.int .u64 (u.floor : Int)) (.inl (by simp))).setCell (p := ⟨w.heap.size, 3, none⟩) (.int .u64 (u.cert : Int)) (.inl (by simp))).setCell (p := ⟨w.heap.size, 4, none⟩) (.int .u64 (u.at_ : Int)) (.inl (by simp))).setCell (p := ⟨w.heap.size, 5, none⟩) (.int .u64 (u.lease : Int)) (.inl (by simp))
          have hfz := (hfr4.chg hCz (fun a ha hm => by have := hlow4 a ha; simp at hm; omega))
          have hfz2 : Fresh (w.heap.size + 1) _ A3 n3 c3 u.files := ⟨hfz.row, hfz.nc, hfz.cm, fun a ha => by have := hlow4 a ha; omega⟩
          have hcz := hc3.trans hCz (by simp)
          have hn3 : n3 ≤ 40 := by
            have := hfz.row.flen
            omega
          have HBZ := Lib.hid hBz
          have HFZ := Lib.hid hfz2
          have HCZ := Lib.hid hcz
          clear hBz hfz hfz2 hcz hCz hfr4 hlow4 hc3 hB3 hbxu
          go_wp2
          go_roundw
          case rel => exact ⟨k + 1, u, A3, n3, c3, by omega, rfl, by go_num, hn3, HBZ.out, HFZ.out, HSTEP, HCZ.out⟩
          case measure => simp [intOf]; omega
      · obtain rfl : n = k := by omega
        have hall : Vw.steps Z = some v := by
          have h := hst.out
          rwa [List.take_of_length_le (by omega)] at h
        have hRs : R = some (v, n, stop) := by
          rw [HRV.out, hall]
          rfl
        have hbr : Below w.heap.size w wr := hb.trans (hchg.below hb.size (by simp))
        have HRS := Lib.hid hRs
        have o0 := hBx.cell 0
        have z0 := hBx.free 0
        have o1 := hBx.cell 1
        have z1 := hBx.free 1
        have o2 := hBx.cell 2
        have z2 := hBx.free 2
        have o3 := hBx.cell 3
        have z3 := hBx.free 3
        have o4 := hBx.cell 4
        have z4 := hBx.free 4
        have o5 := hBx.cell 5
        have z5 := hBx.free 5
        simp only [Vw.cells, List.getElem?_cons_zero, List.getElem?_cons_succ] at o0 o1 o2 o3 o4 o5
        have hCz := ((((((Chg.refl [w.heap.size] wr).setCell (p := ⟨w.heap.size, 0, none⟩) (.int .i64 v.log) (.inl (by simp))).setCell (p := ⟨w.heap.size, 1, none⟩) (.slice A1 m1 c1) (.inl (by simp))).setCell (p := ⟨w.heap.size, 2, none⟩) (.int .u64 (v.floor : Int)) (.inl (by simp))).setCell (p := ⟨w.heap.size, 3, none⟩) (.int .u64 (v.cert : Int)) (.inl (by simp))).setCell (p := ⟨w.heap.size, 4, none⟩) (.int .u64 (v.at_ : Int)) (.inl (by simp))).setCell (p := ⟨w.heap.size, 5, none⟩) (.int .u64 (v.lease : Int)) (.inl (by simp))
        have hfz := (hfr.chg hCz (fun a ha hm => by have := hfr.low a ha; simp at hm; omega)).base (B' := w.heap.size) (by omega)
        have hpost : VwPost w R (.returned (.tuple #[.agg #[.int .i64 v.log, .slice A1 m1 c1, .int .u64 (v.floor : Int), .int .u64 (v.cert : Int), .int .u64 (v.at_ : Int), .int .u64 (v.lease : Int)], .int .i64 (n : Int), .int .i64 (stop : Int), .int .i64 0])) ((((((wr.setCell ⟨w.heap.size, 0, none⟩ (.int .i64 v.log)).setCell ⟨w.heap.size, 1, none⟩ (.slice A1 m1 c1)).setCell ⟨w.heap.size, 2, none⟩ (.int .u64 (v.floor : Int))).setCell ⟨w.heap.size, 3, none⟩ (.int .u64 (v.cert : Int))).setCell ⟨w.heap.size, 4, none⟩ (.int .u64 (v.at_ : Int))).setCell ⟨w.heap.size, 5, none⟩ (.int .u64 (v.lease : Int))) := by
          rw [HRS.out]
          refine ⟨hbr.trans (hCz.below hbr.size (by simp)), ?_⟩
          exact ⟨A1, m1, c1, rfl, hm1, hfz⟩
        have HP := Lib.hid hpost
        clear hpost hCz hfz hfr hall hRs hBx hchg hbodr hst
        go_wp2
        refine bodyPost_ret (v := .tuple #[.agg #[.int .i64 v.log, .slice A1 m1 c1, .int .u64 (v.floor : Int), .int .u64 (v.cert : Int), .int .u64 (v.at_ : Int), .int .u64 (v.lease : Int)], .int .i64 (n : Int), .int .i64 (stop : Int), .int .i64 0]) (by simp [results, go_sem, *]) rfl ?_
        exact HP.out
end Go.Proofs.YthepokgkfaocmaaGreatDoor
