/- Texts Same in one. No conditions. -/
import Derived.Test.YthepokgkfaocmaaGreatDoorBunU
import Derived.BigQuiet

/-
  The walk of the reference's SameView, for any two Views.
-/
namespace Go.Proofs.YthepokgkfaocmaaGreatDoor
open Go Go.RowKit

/-- Two Views are the same. -/
def Vw.same (u v : Vw) : Bool := u.log == v.log && (u.floor == v.floor && (u.cert == v.cert && (u.at_ == v.at_ && (u.lease == v.lease && u.files == v.files))))
theorem Vw.same_iff {u v : Vw} : u.same v = true ↔ u = v := by
  obtain ⟨a, b, c, d, e, f⟩ := u
  obtain ⟨a', b', c', d', e', f'⟩ := v
  simp only [Vw.same, Bool.and_eq_true, beq_iff_eq, Vw.mk.injEq]
  constructor
  · rintro ⟨h1, h2, h3, h4, h5, h6⟩; exact ⟨h1, h6, h2, h3, h4, h5⟩
  · rintro ⟨h1, h6, h2, h3, h4, h5⟩; exact ⟨h1, h2, h3, h4, h5, h6⟩
theorem Vw.same_self (u : Vw) : u.same u = true := Vw.same_iff.2 rfl
theorem lists_eq {fs gs : List (Int × Int)} (hl : fs.length = gs.length) : fs = gs ↔ ∀ k (h1 : k < fs.length) (h2 : k < gs.length), fs[k] = gs[k] := ⟨fun h => by subst h; exact fun _ _ _ => rfl, fun h => List.ext_getElem hl h⟩
set_option maxRecDepth 100000 in
set_option maxHeartbeats 4000000 in
theorem sameview_any (u v : Vw) (A : Option Addr) (n c : Nat) (A2 : Option Addr) (m d : Nat) (w : World) (hn : n ≤ 1000000) (hm : m ≤ 1000000) (hru : Row w.heap.size w A n 2 (fcells u.files)) (hrv : Row w.heap.size w A2 m 2 (fcells v.files)) :
    Calls Tryz.prog 27 #[u.val A n c, v.val A2 m d] w fun e w' => e = .returned (.bool (u.same v)) ∧ Below w.heap.size w w' := by
  obtain ⟨g, fs, f, ce, a, l⟩ := u
  obtain ⟨g2, gs, f2, ce2, a2, l2⟩ := v
  obtain ⟨b, hb⟩ : ∃ b, b = Vw.same ⟨g, fs, f, ce, a, l⟩ ⟨g2, gs, f2, ce2, a2, l2⟩ := ⟨_, rfl⟩
  have hfl := hru.flen
  have hgl := hrv.flen
  rw [← hb]
  unfold Vw.same at hb
  simp only at hb hru hrv hfl hgl
  unfold Vw.val
  simp only
  have hbl := ((Below.refl w.heap.size w).alloc (Nat.le_refl _) (.cells #[.int .i64 g, .slice A n c, .int .u64 (f : Int), .int .u64 (ce : Int), .int .u64 (a : Int), .int .u64 (l : Int)] 31)).alloc (by simp) (.cells #[.int .i64 g2, .slice A2 m d, .int .u64 (f2 : Int), .int .u64 (ce2 : Int), .int .u64 (a2 : Int), .int .u64 (l2 : Int)] 31)
  by_cases h1 : g = g2
  case neg =>
    rw [show (g == g2) = false from beq_eq_false_iff_ne.2 h1] at hb
    have HB := Lib.hid hb
    clear hb hfl hgl hru hrv
    go_enter Tryz.func27, Tryz.ntmps27
    go_wp2
    go_ret
    exact ⟨ret_b (HB.out.trans rfl).symm, hbl⟩
  by_cases h2 : f = f2
  case neg =>
    have e1 : ¬ (f : Int) = (f2 : Int) := by omega
    rw [show (f == f2) = false from beq_eq_false_iff_ne.2 h2] at hb
    have HB := Lib.hid (hb.trans (show _ = false by simp))
    clear hb hfl hgl hru hrv h2
    subst h1
    go_enter Tryz.func27, Tryz.ntmps27
    go_wp2
    go_ret
    exact ⟨ret_b HB.out.symm, hbl⟩
  by_cases h3 : ce = ce2
  case neg =>
    have e1 : ¬ (ce : Int) = (ce2 : Int) := by omega
    rw [show (ce == ce2) = false from beq_eq_false_iff_ne.2 h3] at hb
    have HB := Lib.hid (hb.trans (show _ = false by simp))
    clear hb hfl hgl hru hrv h3
    subst h1 h2
    go_enter Tryz.func27, Tryz.ntmps27
    go_wp2
    go_ret
    exact ⟨ret_b HB.out.symm, hbl⟩
  by_cases h4 : a = a2
  case neg =>
    have e1 : ¬ (a : Int) = (a2 : Int) := by omega
    rw [show (a == a2) = false from beq_eq_false_iff_ne.2 h4] at hb
    have HB := Lib.hid (hb.trans (show _ = false by simp))
    clear hb hfl hgl hru hrv h4
    subst h1 h2 h3
    go_enter Tryz.func27, Tryz.ntmps27
    go_wp2
    go_ret
    exact ⟨ret_b HB.out.symm, hbl⟩
  by_cases h5 : l = l2
  case neg =>
    have e1 : ¬ (l : Int) = (l2 : Int) := by omega
    rw [show (l == l2) = false from beq_eq_false_iff_ne.2 h5] at hb
    have HB := Lib.hid (hb.trans (show _ = false by simp))
    clear hb hfl hgl hru hrv h5
    subst h1 h2 h3 h4
    go_enter Tryz.func27, Tryz.ntmps27
    go_wp2
    go_ret
    exact ⟨ret_b HB.out.symm, hbl⟩
  by_cases h6 : n = m
  case neg =>
    have e1 : ¬ (n : Int) = (m : Int) := by omega
    have e2 : (fs == gs) = false := beq_eq_false_iff_ne.2 (fun e => h6 (by rw [← hfl, ← hgl, e]))
    rw [e2] at hb
    have HB := Lib.hid (hb.trans (show _ = false by simp))
    clear hb hfl hgl hru hrv h6 e2
    subst h1 h2 h3 h4 h5
    go_enter Tryz.func27, Tryz.ntmps27
    go_wp2
    go_ret
    exact ⟨ret_b HB.out.symm, hbl⟩
  subst h1 h2 h3 h4 h5 h6
  have hbb : b = (fs == gs) := by rw [hb]; simp
  have hle := lists_eq (show fs.length = gs.length by omega)
  have hbe : b = true ↔ fs = gs := by rw [hbb]; exact beq_iff_eq
  rw [hle] at hbe
  have HE := Lib.hid hbe
  have hU := (BoxO.new w #[.int .i64 g, .slice A n c, .int .u64 (f : Int), .int .u64 (ce : Int), .int .u64 (a : Int), .int .u64 (l : Int)] 31).alloc (.cells #[.int .i64 g, .slice A2 n d, .int .u64 (f : Int), .int .u64 (ce : Int), .int .u64 (a : Int), .int .u64 (l : Int)] 31)
  have hV := BoxO.new (w.alloc (.cells #[.int .i64 g, .slice A n c, .int .u64 (f : Int), .int .u64 (ce : Int), .int .u64 (a : Int), .int .u64 (l : Int)] 31)) #[.int .i64 g, .slice A2 n d, .int .u64 (f : Int), .int .u64 (ce : Int), .int .u64 (a : Int), .int .u64 (l : Int)] 31
  simp only [World.size_alloc] at hV
  have hru2 := (hru.below hbl).up hbl.size
  have hrv2 := (hrv.below hbl).up hbl.size
  clear hb hbb hle hbe hru hrv
  go_enter Tryz.func27, Tryz.ntmps27
  go_wp2
  generalize ((w.alloc (.cells #[.int .i64 g, .slice A n c, .int .u64 (f : Int), .int .u64 (ce : Int), .int .u64 (a : Int), .int .u64 (l : Int)] 31)).alloc (.cells #[.int .i64 g, .slice A2 n d, .int .u64 (f : Int), .int .u64 (ce : Int), .int .u64 (a : Int), .int .u64 (l : Int)] 31)) = W at *
  go_loopw [5] (fun i wr => ∃ k q : Nat, k ≤ n ∧ i = .int .i64 (k : Int) ∧ Hid (∀ j (h1 : j < fs.length) (h2 : j < gs.length), j < k → fs[j] = gs[j]) ∧ wr = W.drewN q) (fun i _ => n - (intOf i).toNat)
  case atStart => exact ⟨0, 0, Nat.zero_le _, rfl, Lib.hid (fun j _ _ h => by omega), rfl⟩
  case round =>
    obtain ⟨k, q, hk, rfl, hgd, rfl⟩ := hrel
    have q1 := hU.cell 1
    have p1 := hV.cell 1
    simp only [List.getElem?_cons_zero, List.getElem?_cons_succ] at q1 p1
    by_cases hlt : k < n
    · obtain ⟨ad, hl, rfl, hbk, c0, c1⟩ := hru2.file hlt
      obtain ⟨ad2, hl2, rfl, hbk2, d0, d1⟩ := hrv2.file hlt
      have hbad : fs[k] ≠ gs[k] → b = false := fun h => by
        cases b with
        | false => rfl
        | true => exact absurd (HE.out.1 rfl k hl hl2) h
      have hnext : fs[k] = gs[k] → ∀ j (h1 : j < fs.length) (h2 : j < gs.length), j < k + 1 → fs[j] = gs[j] := fun e j hj hj2 hjk => by
        rcases Nat.lt_or_ge j k with h | h
        · exact hgd.out j hj hj2 h
        · obtain rfl : j = k := by omega
          exact e
      generalize fs[k] = x at *
      generalize gs[k] = y at *
      obtain ⟨x0, x1⟩ := x
      obtain ⟨y0, y1⟩ := y
      have H1 := Lib.hid hbad
      have H2 := Lib.hid hnext
      clear hbad hnext hgd HE hU hV hl hl2 hru2 hrv2
      by_cases hx : x0 = y0
      · by_cases hy : x1 = y1
        · have HN := Lib.hid (H2.out (Prod.ext hx hy))
          clear H1 H2
          subst hx hy
          go_wp2_with fail
          go_quiet (fail)
          go_wp2
          go_roundw
          case rel => exact ⟨k + 1, _, by omega, by go_num, HN, rfl⟩
          case measure => simp [intOf]; omega
        · subst hx
          have HB := Lib.hid (H1.out (fun e => hy (Prod.mk.inj e).2))
          go_wp2_with fail
          go_quiet (fail)
          go_wp2
          go_ret
          exact ⟨ret_b HB.out.symm, below_drewN (below_drewN hbl q) _⟩
      · have HB := Lib.hid (H1.out (fun e => hx (Prod.mk.inj e).1))
        go_wp2_with fail
        go_quiet (fail)
        go_wp2
        go_ret
        exact ⟨ret_b HB.out.symm, below_drewN (below_drewN hbl q) _⟩
    · have hfin : b = true := HE.out.2 (fun j h1 h2 => hgd.out j h1 h2 (by omega))
      have HF := Lib.hid hfin
      clear hfin hgd HE
      go_wp2
      go_ret
      exact ⟨ret_b HF.out.symm, below_drewN hbl q⟩
end Go.Proofs.YthepokgkfaocmaaGreatDoor
