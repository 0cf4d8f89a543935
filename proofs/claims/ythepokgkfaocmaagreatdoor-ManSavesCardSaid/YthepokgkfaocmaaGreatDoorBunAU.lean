/- Texts SaveM in one. No conditions. -/
import Derived.Test.YthepokgkfaocmaaGreatDoorBunAT

/-
  Saves, rewrites and losses of power, with what they leave alone; a View in a box of its own beside them.
-/
namespace Go.Proofs.YthepokgkfaocmaaGreatDoor
open Go Go.RowKit Go.Shelf
variable {P P1 : Sl} {W0 w w1 : World} {X X1 : Dw} {S S1 : Sd} {m m1 : Nat} {M M1 : Gs}
/-- What a call leaves that gives an error's number, and what it leaves alone. -/
def LErr2 (W0 w : World) (m : Nat) (X : Dw) (R : Sd × Gs × Nat) (e : Ending) (w' : World) : Prop := e = .returned (.int .i64 (R.2.2 : Int)) ∧ ∃ P' X', X'.d = X.d ∧ GAt P' W0 w' X' R.1 m R.2.1 ∧ Chg (m :: X.foot) w w' ∧ ∀ g ∈ X'.foot, g ∈ X.foot ∨ w.heap.size ≤ g
theorem LErr2.left (h : GAt P W0 w X S m M) {R : Sd × Gs × Nat} {e : Ending} (k : GLeft m X w R e w1) : LErr2 W0 w m X R e w1 := by
  obtain ⟨a, P', X', b⟩ := k
  exact ⟨a, P', X', b.acc.e, h.mst_left b, b.acc.c, b.acc.f⟩
theorem GAt.save2 (h : GAt P W0 w X S m M) (hn : NG ≤ W0.heap.size) (hv : M.v.ok = true) (hc : M.count ≤ 1000000000) (hl : M.name.length ≤ 1000) (x : Ev) (hx : x.ok w.heap.size w) (hm : x.m ≤ 1000000) (hn2 : x.n ≤ 1000000) :
    Calls Tryz.prog 15 #[.pointer (some ⟨m, 0, none⟩), x.e.val x.D x.m x.d x.A x.n x.c] w (LErr2 W0 w m X (Gw.save S M x.e)) :=
  (gsave_any x.e x.D x.m x.d x.A x.n x.c hm hn2 hx.d hx.a (h.few hv) hc hl (h.mst hn)).mono fun _ _ k => LErr2.left h k
theorem GAt.rewrite2 (h : GAt P W0 w X S m M) (hn : NG ≤ W0.heap.size) (hv : M.v.ok = true) (hld : S.load ≤ 1000000000000) :
    Calls Tryz.prog 31 #[.pointer (some ⟨m, 0, none⟩)] w (LErr2 W0 w m X (Gw.rewriteM S M)) :=
  (grewriteM_any hv hld (h.mst hn)).mono fun _ _ k => LErr2.left h k
theorem GAt.crash2 (h : GAt P W0 w X S m M) (hi : S.co.In) (hm : S.co.most ≤ 64) (hl : S.load ≤ 1099511627776) {A : Option Addr} {n c : Nat} {ks : List Int} (hr : Row W0.heap.size W0 A n 1 (icells ks)) (hn : n ≤ c) (hc : c ≤ maxLen) :
    Calls Tryz.prog 34 #[.pointer (some ⟨X.d, 0, none⟩), .slice A n c] w fun e w' => e = .returned (.tuple #[]) ∧ ∃ X', X'.d = X.d ∧ GAt P W0 w' X' (S.crash ks) m M ∧ Chg (m :: X.foot) w w' ∧ ∀ g ∈ X'.foot, g ∈ X.foot ∨ w.heap.size ≤ g := by
  have hlm : S.lasted.length ≤ 1099511627776 := by
    have : S.lasted.length ≤ S.co.most := by unfold Co.most; exact Nat.le_add_right _ _
    omega
  refine (crash_any X S w A n c ks h.dm.wf hl h.dm.dk ((hr.below h.bel).up h.bel.size) hn hc (fun j hj a ha hx => by
    have h1 := row_lt hr hj ha
    have h2 := h.low _ hx
    omega) (fun t ht => Nat.le_trans (hi.tb t ht) (by omega)) hlm).mono fun e w' ⟨h1, h2⟩ => ⟨h1, ?_⟩
  obtain ⟨X2, k⟩ := h.acc0.step (h.dm.upd (Sd.crash_wf h.dm.wf hi hm ks) h2)
  exact ⟨X2, k.e, h.acc k, k.c.mono (fun g hg => .inl (by simpa using Or.inr hg)), k.f⟩
def viewCells (v : Vw) (A : Option Addr) (n c : Nat) : List Value := [.int .i64 v.log, .slice A n c, .int .u64 (v.floor : Int), .int .u64 (v.cert : Int), .int .u64 (v.at_ : Int), .int .u64 (v.lease : Int)]
/-- A row of files does not lie in a View's box. -/
theorem row_not_view {B b n nv cv k : Nat} {A Av : Option Addr} {v : Vw} {fs : List (Int × Int)} (hb : BoxO w 31 b (viewCells v Av nv cv)) (hr : Row B w A n 2 (fcells fs)) (hk : k < (fcells fs).length) (a : Addr) (ha : A = some a) : a.block ≠ b := by
  intro e
  cases fs with
  | nil => simp [fcells] at hk
  | cons f r =>
    have g : ∀ j v, (fcells (f :: r))[j]? = some v → w.cell? (a.add j) = some v := fun j v hv => by
      obtain ⟨a', ea, _, c⟩ := row_cell hr hv
      rw [ha] at ea
      injection ea with ea
      subst ea
      exact c
    have c0 := g 0 (.int .i64 f.1) (by simp [fcells])
    have c1 := g 1 (.int .i64 f.2) (by simp [fcells])
    have hsp : a.spot = none := by
      cases hs : a.spot with
      | none => rfl
      | some s =>
        exfalso
        have : w.cell? (a.add 0) = none := by
          have e0 : (a.add 0) = a := by simp [Addr.add]
          rw [e0]
          unfold World.cell?
          rw [e, show w.heap[b]? = _ from hb]
          simp [hs]
        rw [this] at c0
        cases c0
    have e0 : a.add 0 = ⟨b, a.off, none⟩ := by
      obtain ⟨x, y, z⟩ := a
      simp only at e hsp
      subst e hsp
      simp [Addr.add]
    have e1 : a.add 1 = ⟨b, a.off + 1, none⟩ := by
      obtain ⟨x, y, z⟩ := a
      simp only at e hsp
      subst e hsp
      simp [Addr.add]
    rw [e0, hb.cell] at c0
    rw [e1, hb.cell] at c1
    generalize a.off = o at *
    match o with
    | 0 => simp [viewCells] at c1
    | 1 => simp [viewCells] at c0
    | 2 => simp [viewCells] at c0
    | 3 => simp [viewCells] at c0
    | 4 => simp [viewCells] at c0
    | 5 => simp [viewCells] at c0
    | o + 6 => simp [viewCells] at c0
/-- A View in a box, beside a disk and a manifest. -/
structure Vst (b : Nat) (w : World) (X : Dw) (m : Nat) (v : Vw) (A : Option Addr) (n c : Nat) : Prop where
  box : BoxO w 31 b (viewCells v A n c)
  row : Row w.heap.size w A n 2 (fcells v.files)
  few : n ≤ 10000
  nc : n ≤ c
  cm : c ≤ maxLen
  off : ∀ j, j < (fcells v.files).length → ∀ a, A = some a → a.block ∉ X.foot ∧ a.block ≠ m
  bx : b ∉ X.foot ∧ b ≠ m
variable {b n c : Nat} {v : Vw} {A : Option Addr}
theorem Vst.step (h : Vst b w X m v A n c) (k : Chg (m :: X.foot) w w1) (f : ∀ g ∈ X1.foot, g ∈ X.foot ∨ w.heap.size ≤ g) (hm : m1 = m ∨ w.heap.size ≤ m1) : Vst b w1 X1 m1 v A n c := by
  have hb := h.box.lt
  refine ⟨h.box.chg k (by simp [h.bx.1, h.bx.2]), (row_chg k h.row (Nat.le_refl _) (fun j hj a ha hx => ?_)).up k.size, h.few, h.nc, h.cm, fun j hj a ha => ⟨fun hx => ?_, fun hx => ?_⟩, fun hx => ?_, fun hx => ?_⟩
  · obtain ⟨h1, h2⟩ := h.off j hj a ha
    rcases List.mem_cons.1 hx with h3 | h3
    · exact h2 h3
    · exact h1 h3
  · have h4 := row_lt h.row hj ha
    rcases f _ hx with h3 | h3
    · exact (h.off j hj a ha).1 h3
    · omega
  · have h4 := row_lt h.row hj ha
    rcases hm with rfl | h3
    · exact (h.off j hj a ha).2 hx
    · omega
  · rcases f _ hx with h3 | h3
    · exact h.bx.1 h3
    · omega
  · rcases hm with rfl | h3
    · exact h.bx.2 hx
    · omega
theorem Vst.below (h : Vst b w X m v A n c) (hb : Below w.heap.size w w1) : Vst b w1 X m v A n c := h.step (Chg.of_below hb _) (fun _ h => .inl h) (.inl rfl)
/-- A View's six cells are set anew. -/
def World.setView (w : World) (b : Nat) (u : Vw) (A : Option Addr) (n c : Nat) : World := (((((w.setCell ⟨b, 0, none⟩ (.int .i64 u.log)).setCell ⟨b, 1, none⟩ (.slice A n c)).setCell ⟨b, 2, none⟩ (.int .u64 (u.floor : Int))).setCell ⟨b, 3, none⟩ (.int .u64 (u.cert : Int))).setCell ⟨b, 4, none⟩ (.int .u64 (u.at_ : Int))).setCell ⟨b, 5, none⟩ (.int .u64 (u.lease : Int))
theorem Vst.assign (V : Vst b w X m v A n c) (L : GAt P W0 w X S m M) (hb0 : W0.heap.size ≤ b) (hN : NG ≤ W0.heap.size) (u : Vw) (Au : Option Addr) (nu cu : Nat) (hr : Row w.heap.size w Au nu 2 (fcells u.files)) (hf : nu ≤ 10000) (hnc : nu ≤ cu) (hcm : cu ≤ maxLen)
    (hlt : ∀ j, j < (fcells u.files).length → ∀ a, Au = some a → a.block ≠ b ∧ a.block ∉ X.foot ∧ a.block ≠ m) : Vst b (World.setView w b u Au nu cu) X m u Au nu cu ∧ GAt P W0 (World.setView w b u Au nu cu) X S m M := by
  have hbox : BoxO (World.setView w b u Au nu cu) 31 b (viewCells u Au nu cu) := by
    have h0 := V.box.store 0 (.int .i64 u.log)
    have h1 := h0.store 1 (.slice Au nu cu)
    have h2 := h1.store 2 (.int .u64 (u.floor : Int))
    have h3 := h2.store 3 (.int .u64 (u.cert : Int))
    have h4 := h3.store 4 (.int .u64 (u.at_ : Int))
    exact h4.store 5 (.int .u64 (u.lease : Int))
  have hc : Chg [b] w (World.setView w b u Au nu cu) := by
    unfold World.setView
    have h0 := (Chg.refl [b] w).setCell (p := ⟨b, 0, none⟩) (.int .i64 u.log) (.inl (by simp))
    have h1 := h0.setCell (p := ⟨b, 1, none⟩) (.slice Au nu cu) (.inl (by simp))
    have h2 := h1.setCell (p := ⟨b, 2, none⟩) (.int .u64 (u.floor : Int)) (.inl (by simp))
    have h3 := h2.setCell (p := ⟨b, 3, none⟩) (.int .u64 (u.cert : Int)) (.inl (by simp))
    have h4 := h3.setCell (p := ⟨b, 4, none⟩) (.int .u64 (u.at_ : Int)) (.inl (by simp))
    exact h4.setCell (p := ⟨b, 5, none⟩) (.int .u64 (u.lease : Int)) (.inl (by simp))
  generalize World.setView w b u Au nu cu = w7 at *
  exact ⟨⟨hbox, (row_chg hc hr (Nat.le_refl _) (fun j hj a ha hm => (hlt j hj a ha).1 (List.mem_singleton.1 hm))).up hc.size, hf, hnc, hcm, fun j hj a ha => (hlt j hj a ha).2, V.bx⟩,
    L.other hc V.bx.1 V.bx.2 (fun j hj a ha => row_not_view V.box L.row.row hj a ha) hb0 hN⟩
end Go.Proofs.YthepokgkfaocmaaGreatDoor
