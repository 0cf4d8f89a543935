/- Texts Look, OpenG, EditsOpen, Args, LawM, PlainCrc, PlainTurns, PlainBursts in one. No conditions. -/
import Derived.Test.YthepokgkfaocmaaGreatDoorBunAP
import Derived.Test.YthepokgkfaocmaaGreatDoorBunAO
import Derived.Test.YthepokgkfaocmaaGreatDoorBunAL
import Derived.Carry
import Derived.Test.YthepokgkfaocmaaGreatDoorBunAM
import Derived.ProofKit
import Derived.OpenShut
import Derived.Test.YthepokgkfaocmaaGreatDoorBunAA

/-
  Look and Open of any disk: plain; the walk of man.Look.
-/
namespace Go.Proofs.YthepokgkfaocmaaGreatDoor
open Go Go.RowKit Go.Shelf

namespace Gw
open Mn
open Mw (kCur)
/-- What the manifest of a number says. -/
def lookT (d : Sd) (n : Nat) : Option (Gs × Bool) × Nat :=
  if (d.read (name kMan n)).2 ≠ 0 then (none, 9)
  else match Vw.views (d.read (name kMan n)).1 with
    | none => (none, 9)
    | some (v, k, stop) => (some (⟨name kMan n, v, k, false⟩, decide (stop < (d.read (name kMan n)).1.length) || decide (30 < k)), 0)
/-- What the number says that current holds. -/
def lookN (d : Sd) (b : List UInt8) : Option (Gs × Bool) × Nat :=
  if (Pn.take b).2.2 ≠ 0 ∨ (Pn.take b).2.1 ≠ b.length ∨ (Pn.take b).1 < 1 ∨ 1073741824 < (Pn.take b).1 then (none, 9) else lookT d (Pn.take b).1
/-- What current says. -/
def lookC (d : Sd) (t : List UInt8) : Option (Gs × Bool) × Nat :=
  if (Fr.take t 0).2.2.2 ≠ 0 ∨ (Fr.take t 0).1 ≠ 8 ∨ (Fr.take t 0).2.2.1 ≠ t.length then (none, 9) else lookN d (Fr.take t 0).2.1
def look (d : Sd) : Option (Gs × Bool) × Nat :=
  if (d.read kCur).2 ≠ 0 then (none, (d.read kCur).2) else lookC d (d.read kCur).1
def opens (d : Sd) : Option Gs × Sd × Nat := match look d with
  | (none, er) => (none, d, er)
  | (some (M, must), _) => if must = true then (if (rewriteM d M).2.2 ≠ 0 then (none, (rewriteM d M).1, (rewriteM d M).2.2) else (some (rewriteM d M).2.1, (rewriteM d M).1, 0)) else (some M, d, 0)
end Gw
theorem Sd.read_len {d : Sd} (h : d.Wf) (s : List UInt8) : (d.read s).1.length ≤ 250000 := by
  unfold Sd.read
  split
  · simp
  · split
    · simp
    · cases hg : d.names.get s with
      | none => simp
      | some i => exact (Sd.getD_file h (h.names _ (Nm.get_mem hg))).2
theorem Vw.steps_ok : ∀ (l : List (Nat × List UInt8)) (o : Option Vw) (v : Vw), l ≠ [] → l.foldl Vw.step o = some v → v.ok = true := by
  intro l
  induction l with
  | nil => intro o v h; exact absurd rfl h
  | cons p r ih =>
    intro o v _ h
    rw [List.foldl_cons] at h
    cases r with
    | nil =>
      simp only [List.foldl_nil] at h
      cases o with
      | none => cases h
      | some u =>
        simp only [Vw.step] at h
        split at h
        · exact Vw.app_ok h
        · cases h
    | cons q s => exact ih _ v (by simp) h
theorem Vw.views_ok {t : List UInt8} {v : Vw} {k stop : Nat} (h : Vw.views t = some (v, k, stop)) : v.ok = true := by
  unfold Vw.views at h
  split at h
  · cases h
  · rename_i h1
    have h2 : (Fr.split t).2.1 ≠ [] := fun e => h1 (.inr e)
    cases hs : Vw.steps ((Fr.split t).1.zip (Fr.split t).2.1) with
    | none => rw [hs] at h; cases h
    | some u =>
      rw [hs] at h
      simp only [Option.map_some, Option.some.injEq, Prod.mk.injEq] at h
      obtain ⟨rfl, _⟩ := h
      refine Vw.steps_ok _ _ _ (fun e => h2 ?_) hs
      have hl := congrArg List.length e
      rw [List.length_zip, Fr.split_same t, Nat.min_self, List.length_nil] at hl
      exact List.eq_nil_of_length_eq_zero hl
theorem Gw.look_ok {d : Sd} {M : Gs} {must : Bool} {er : Nat} (h : Gw.look d = (some (M, must), er)) : M.v.ok = true ∧ M.broken = false := by
  unfold look lookC lookN lookT at h
  split at h
  · simp at h
  · split at h
    · simp at h
    · split at h
      · simp at h
      · split at h
        · simp at h
        · cases hv : Vw.views (d.read (Mn.name Mn.kMan (Pn.take (Fr.take (d.read Mw.kCur).1 0).2.1).1)).1 with
          | none => rw [hv] at h; simp at h
          | some x =>
            obtain ⟨v, k, stop⟩ := x
            rw [hv] at h
            simp only [Prod.mk.injEq, Option.some.injEq] at h
            obtain ⟨⟨rfl, _⟩, _⟩ := h
            exact ⟨Vw.views_ok hv, rfl⟩

variable {m : Nat} {X X1 : Dw} {w w1 w2 : World} {S S1 : Sd} {M M1 : Gs}
/-- What Look gives. -/
def GLook (X : Dw) (w : World) (R : Option (Gs × Bool) × Nat) (e : Ending) (w' : World) : Prop := Below w.heap.size w w' ∧ match R with
  | (none, er) => e = .returned (.tuple #[.pointer none, .bool false, .int .i64 (er : Int)])
  | (some (M, must), _) => ∃ m P, e = .returned (.tuple #[.pointer (some ⟨m, 0, none⟩), .bool must, .int .i64 0]) ∧ GK w' m X.d M P ∧ w.heap.size ≤ m ∧ Vrow w' X m P M.v.files ∧ P.n ≤ 40
theorem GLook.no {R : Option (Gs × Bool) × Nat} {er : Nat} (hR : R = (none, er)) (hb : Below w.heap.size w w1) : GLook X w R (.returned (.tuple #[.pointer none, .bool false, .int .i64 (er : Int)])) w1 := by
  subst hR
  exact ⟨hb, rfl⟩
theorem GLook.yes {R : Option (Gs × Bool) × Nat} {must : Bool} {er : Nat} (hR : R = (some (M, must), er)) (hb : Below w.heap.size w w1) {P : Sl} (h1 : GK w1 m X.d M P) (h2 : w.heap.size ≤ m) (h3 : Vrow w1 X m P M.v.files) (h4 : P.n ≤ 40) : GLook X w R (.returned (.tuple #[.pointer (some ⟨m, 0, none⟩), .bool must, .int .i64 0])) w1 := by
  subst hR
  exact ⟨hb, m, P, rfl, h1, h2, h3, h4⟩

set_option maxRecDepth 100000 in
set_option maxHeartbeats 4000000 in
theorem glook_any (h : Dm w X S) : Calls Tryz.prog 50 #[.pointer (some ⟨X.d, 0, none⟩)] w (GLook X w (Gw.look S)) := by
  obtain ⟨R, hR⟩ : ∃ R, R = Gw.look S := ⟨_, rfl⟩
  rw [← hR]
  have hwf := h.wf
  have hrd := read_any X S sCur (by decide) h.wf w h.dk
  rw [sCur_list] at hrd
  unfold sCur at hrd
  have hl0 := Sd.read_len hwf Mw.kCur
  have hR2 : R = if (S.read Mw.kCur).2 ≠ 0 then (none, (S.read Mw.kCur).2) else Gw.lookC S (S.read Mw.kCur).1 := hR
  clear hR
  generalize S.read Mw.kCur = rc at *
  obtain ⟨t, er⟩ := rc
  simp only at hrd hl0 hR2
  by_cases her : er ≠ 0
  · have e1 : ((er : Int) == 0) = false := by simp; omega
    have e1' : ((er : Int) != 0) = true := by simp; omega
    rw [if_pos her] at hR2
    have HR := Lib.hid hR2
    clear hR2 her
    go_enter Tryz.func50, Tryz.ntmps50
    go_wp2_with fail
    refine hrd.mono ?_
    rintro e w1 ⟨A1, c1, rfl, _, hb1⟩
    have HL := Lib.hid (GLook.no (X := X) HR.out hb1)
    clear hb1
    go_wp2
    refine bodyPost_ret (v := .tuple #[.pointer none, .bool false, .int .i64 (er : Int)]) (by simp [results, go_sem]) rfl HL.out
  have her0 : er = 0 := by omega
  subst her0
  rw [if_neg (by simp)] at hR2
  clear her
  have hR3 : R = if (Fr.take t 0).2.2.2 ≠ 0 ∨ (Fr.take t 0).1 ≠ 8 ∨ (Fr.take t 0).2.2.1 ≠ t.length then (none, 9) else Gw.lookN S (Fr.take t 0).2.1 := hR2
  clear hR2
  have hft := fun (A1 : Option Addr) (c1 : Nat) (w1 : World) (h1 : t.length ≤ c1) (h2 : c1 ≤ maxLen) (h3 : Row w1.heap.size w1 A1 t.length 1 (bts t)) => ftake_any A1 t.length c1 t 0 w1 (by omega) h1 h2 h3 (Nat.zero_le _)
  rw [show ((0 : Nat) : Int) = 0 from rfl] at hft
  have hbl := Fr.take_len t 0
  generalize Fr.take t 0 = rt at *
  obtain ⟨k, bd, nx, er⟩ := rt
  simp only at hbl
  simp only at hft hR3
  have HFT := Lib.hid hft
  have HRD := Lib.hid hrd
  clear hft hrd
  by_cases h1 : er ≠ 0 ∨ k ≠ 8 ∨ nx ≠ t.length
  · rw [if_pos h1] at hR3
    have HR := Lib.hid hR3
    clear hR3
    have hc : (((er : Int) == 0) = false ∧ ((er : Int) != 0) = true) ∨ (er = 0 ∧ ((k : Int) == 8) = false ∧ ((k : Int) != 8) = true) ∨ (er = 0 ∧ k = 8 ∧ ((nx : Int) == (t.length : Int)) = false ∧ ((nx : Int) != (t.length : Int)) = true) := by
      by_cases a : er = 0
      · by_cases b : k = 8
        · refine .inr (.inr ⟨a, b, ?_, ?_⟩) <;> (simp; omega)
        · refine .inr (.inl ⟨a, ?_, ?_⟩) <;> (simp; omega)
      · refine .inl ⟨?_, ?_⟩ <;> (simp; omega)
    clear h1
    rcases hc with ⟨e1, e1'⟩ | ⟨rfl, e1, e1'⟩ | ⟨rfl, rfl, e1, e1'⟩
    all_goals
      go_enter Tryz.func50, Tryz.ntmps50
      go_wp2_with fail
      refine HRD.out.mono ?_
      rintro e w1 ⟨A1, c1, rfl, hown1, hb1⟩
      have hcap1 : t.length ≤ c1 ∧ c1 ≤ maxLen := by
        obtain ⟨A', c', e, h1, h2, _⟩ := own_form hown1
        injection e with _ e2 e3
        omega
      have hft := HFT.out A1 c1 w1 hcap1.1 hcap1.2 (Row.own hown1)
      clear hown1
      go_wp2_with fail
      refine hft.mono ?_
      rintro e w2 ⟨A2, M2, c2, rfl, _, _, _, hb2⟩
      have HL := Lib.hid (GLook.no (X := X) HR.out (hb1.trans (hb2.mono hb1.size)))
      clear hb1 hb2 hft
      go_wp2
      refine bodyPost_ret (v := .tuple #[.pointer none, .bool false, .int .i64 9]) (by simp [results, go_sem]) rfl HL.out
  rw [if_neg h1] at hR3
  obtain ⟨rfl, rfl, rfl⟩ : er = 0 ∧ k = 8 ∧ nx = t.length := by omega
  clear h1
  have hR4 : R = if (Pn.take bd).2.2 ≠ 0 ∨ (Pn.take bd).2.1 ≠ bd.length ∨ (Pn.take bd).1 < 1 ∨ 1073741824 < (Pn.take bd).1 then (none, 9) else Gw.lookT S (Pn.take bd).1 := hR3
  clear hR3
  have htn := fun (A1 : Option Addr) (N c1 : Nat) (w1 : World) (h1 : N ≤ 1073741824) (h3 : Row w1.heap.size w1 A1 N 1 (bts bd)) => take_any A1 N c1 bd w1 h1 h3
  generalize Pn.take bd = rn at *
  obtain ⟨n, sz, er⟩ := rn
  simp only at htn hR4
  have HTN := Lib.hid htn
  clear htn
  by_cases h1 : er ≠ 0 ∨ sz ≠ bd.length ∨ n < 1 ∨ 1073741824 < n
  · rw [if_pos h1] at hR4
    have HR := Lib.hid hR4
    clear hR4
    have hc : (((er : Int) == 0) = false ∧ ((er : Int) != 0) = true) ∨ (er = 0 ∧ ((sz : Int) == (bd.length : Int)) = false ∧ ((sz : Int) != (bd.length : Int)) = true) ∨ (er = 0 ∧ sz = bd.length ∧ ((n : Int) < 1) ∧ (n : Int) < 1) ∨ (er = 0 ∧ sz = bd.length ∧ ((n : Int) < 1) = False ∧ (1073741824 : Int) < (n : Int)) := by
      by_cases a : er = 0
      · by_cases b : sz = bd.length
        · by_cases c : n < 1
          · exact .inr (.inr (.inl ⟨a, b, by omega, by omega⟩))
          · refine .inr (.inr (.inr ⟨a, b, ?_, by omega⟩))
            simp
            omega
        · refine .inr (.inl ⟨a, ?_, ?_⟩) <;> (simp; omega)
      · refine .inl ⟨?_, ?_⟩ <;> (simp; omega)
    clear h1
    rcases hc with ⟨e1, e2⟩ | ⟨rfl, e1, e2⟩ | ⟨rfl, rfl, e1, e2⟩ | ⟨rfl, rfl, e1, e2⟩
    all_goals
      go_enter Tryz.func50, Tryz.ntmps50
      go_wp2_with fail
      refine HRD.out.mono ?_
      rintro e w1 ⟨A1, c1, rfl, hown1, hb1⟩
      have hcap1 : t.length ≤ c1 ∧ c1 ≤ maxLen := by
        obtain ⟨A', c', e, h1, h2, _⟩ := own_form hown1
        injection e with _ e2 e3
        omega
      have hft := HFT.out A1 c1 w1 hcap1.1 hcap1.2 (Row.own hown1)
      clear hown1
      go_wp2_with fail
      refine hft.mono ?_
      rintro e w2 ⟨A2, M2, c2, rfl, hown2, hM2, hc2, hb2⟩
      have hM2e : bd.length = M2 := (Row.own hown2).btlen
      subst hM2e
      have htn := HTN.out A2 bd.length c2 w2 (by omega) (Row.own hown2)
      have hb12 := hb1.trans (hb2.mono hb1.size)
      clear hb1 hb2 hft hown2
      go_wp2_with fail
      refine htn.mono ?_
      rintro e w3 ⟨rfl, rfl⟩
      have HL := Lib.hid (GLook.no (X := X) HR.out hb12)
      clear hb12 htn
      go_wp2
      refine bodyPost_ret (v := .tuple #[.pointer none, .bool false, .int .i64 9]) (by simp [results, go_sem]) rfl HL.out
  rw [if_neg h1] at hR4
  obtain ⟨rfl, rfl, hn1, hn2⟩ : er = 0 ∧ sz = bd.length ∧ 1 ≤ n ∧ n ≤ 1073741824 := by omega
  clear h1
  have n1 : ((n : Int) < 1) = False := by simp; omega
  have n2 : ((1073741824 : Int) < (n : Int)) = False := by simp; omega
  have hR5 : R = if (S.read (Mn.name Mn.kMan n)).2 ≠ 0 then (none, 9) else match Vw.views (S.read (Mn.name Mn.kMan n)).1 with
    | none => (none, 9)
    | some (v, k, stop) => (some (⟨Mn.name Mn.kMan n, v, k, false⟩, decide (stop < (S.read (Mn.name Mn.kMan n)).1.length) || decide (30 < k)), 0) := hR4
  clear hR4
  obtain ⟨nm, hNM⟩ : ∃ nm, nm = Mn.name Mn.kMan (n : Int) := ⟨_, rfl⟩
  have hnl := name_le n
  rw [← hNM] at hR5 hnl
  have HNM := Lib.hid hNM
  clear hNM
  have hl2 := Sd.read_len hwf nm
  have hrd2 := fun (W : World) (hW : Dm W X S) => read_any X S (str nm) (by rw [str_size]; unfold maxLen; omega) hwf W hW.dk
  rw [list_str] at hrd2
  generalize S.read nm = rr at *
  obtain ⟨u, er⟩ := rr
  simp only at hrd2 hl2 hR5
  have HRD2 := Lib.hid hrd2
  have HR := Lib.hid hR5
  clear hR5 hrd2
  go_enter Tryz.func50, Tryz.ntmps50
  go_wp2_with fail
  refine HRD.out.mono ?_
  rintro e w1 ⟨A1, c1, rfl, hown1, hb1⟩
  have hcap1 : t.length ≤ c1 ∧ c1 ≤ maxLen := by
    obtain ⟨A', c', e, h1, h2, _⟩ := own_form hown1
    injection e with _ e2 e3
    omega
  have hft := HFT.out A1 c1 w1 hcap1.1 hcap1.2 (Row.own hown1)
  clear hown1
  go_wp2_with fail
  refine hft.mono ?_
  rintro e w2 ⟨A2, M2, c2, rfl, hown2, hM2, hc2, hb2⟩
  have hM2e : bd.length = M2 := (Row.own hown2).btlen
  subst hM2e
  have htn := HTN.out A2 bd.length c2 w2 (by omega) (Row.own hown2)
  have h2 := (h.below hb1).below hb2
  have hb12 := hb1.trans (hb2.mono hb1.size)
  clear hb1 hb2 hft hown2
  go_wp2_with fail
  refine htn.mono ?_
  rintro e w3 ⟨rfl, rfl⟩
  have hnm := name_any sMan (by decide) (n : Int) (by omega) w2 h2.env
  rw [sMan_list, ← show nm = _ from HNM.out] at hnm
  unfold sMan at hnm
  clear htn
  go_wp2_with fail
  refine hnm.mono ?_
  rintro e w4 ⟨rfl, hb4⟩
  have h4 := h2.below hb4
  have hb14 := hb12.trans (hb4.mono hb12.size)
  have hrd2 := HRD2.out w4 h4
  clear hnm hb12 hb4 h2
  go_wp2_with fail
  refine hrd2.mono ?_
  rintro e w5 ⟨A5, c5, rfl, hown5, hb5⟩
  have hb15 := hb14.trans (hb5.mono hb14.size)
  by_cases her : er ≠ 0
  · have e1 : ((er : Int) == 0) = false := by simp; omega
    have e1' : ((er : Int) != 0) = true := by simp; omega
    have HL := Lib.hid (GLook.no (X := X) (HR.out.trans (if_pos her)) hb15)
    clear her hb15 hown5 hb5 hb14 h4 hrd2
    go_wp2
    refine bodyPost_ret (v := .tuple #[.pointer none, .bool false, .int .i64 9]) (by simp [results, go_sem]) rfl HL.out
  have her0 : er = 0 := by omega
  subst her0
  have hR6 := HR.out.trans (if_neg her)
  have hcap5 : u.length ≤ c5 ∧ c5 ≤ maxLen := by
    obtain ⟨A', c', e, h1, h2, _⟩ := own_form hown5
    injection e with _ e2 e3
    omega
  have hvw := views_gen A5 u.length c5 u w5 (by omega) hcap5.1 hcap5.2 (Row.own hown5)
  have h5 := h4.below hb5
  clear hrd2 hb5 hown5 hb14 h4 her
  cases hV : Vw.views u with
  | none =>
    rw [hV] at hvw hR6
    have HR6 := Lib.hid hR6
    clear hR6 hV HR
    go_wp2_with fail
    refine hvw.mono ?_
    rintro e w6 ⟨hb6, he6⟩
    simp only [Vw.none_, Vw.val] at he6
    subst he6
    have HL := Lib.hid (hb15.trans (hb6.mono hb15.size))
    clear hb6 hb15 hvw
    go_wp2
    refine bodyPost_ret (v := .tuple #[.pointer none, .bool false, .int .i64 9]) (by simp [results, go_sem]) rfl (GLook.no (er := 9) HR6.out (HL.out.alloc HL.out.size _))
  | some x =>
    obtain ⟨v, k, stop⟩ := x
    rw [hV] at hvw hR6
    simp only at hR6
    obtain ⟨bb, hbb⟩ : ∃ bb, bb = (decide (stop < u.length) || decide (30 < k)) := ⟨_, rfl⟩
    rw [← hbb] at hR6
    have HR6 := Lib.hid hR6
    have HBB := Lib.hid hbb
    clear hR6 hV HR hbb
    go_wp2_with fail
    refine hvw.mono ?_
    rintro e w6 ⟨hb6, A, N, c, rfl, hN, hfr⟩
    unfold Vw.val
    have hb16 := hb15.trans (hb6.mono hb15.size)
    have hb17 := (hb16.alloc hb16.size (.cells #[.int .i64 v.log, .slice A N c, .int .u64 (v.floor : Int), .int .u64 (v.cert : Int), .int .u64 (v.at_ : Int), .int .u64 (v.lease : Int)] 31))
    have hlt6 := hb16.size
    have hlow6 : ∀ a, A = some a → w5.heap.size ≤ a.block := hfr.low
    have hbx : GK ((w6.alloc (.cells #[.int .i64 v.log, .slice A N c, .int .u64 (v.floor : Int), .int .u64 (v.cert : Int), .int .u64 (v.at_ : Int), .int .u64 (v.lease : Int)] 31)).alloc (.cells #[.pointer (some ⟨X.d, 0, none⟩), .string (str nm), .int .i64 v.log, .slice A N c, .int .u64 (v.floor : Int), .int .u64 (v.cert : Int), .int .u64 (v.at_ : Int), .int .u64 (v.lease : Int), .int .i64 (k : Int), .int .u32 0, .int .i32 0, .int .u32 0, .bool false] 92)) (w6.heap.size + 1) X.d ⟨nm, v, k, false⟩ ⟨A, N, c⟩ := by
      have := BoxO.new (w6.alloc (.cells #[.int .i64 v.log, .slice A N c, .int .u64 (v.floor : Int), .int .u64 (v.cert : Int), .int .u64 (v.at_ : Int), .int .u64 (v.lease : Int)] 31)) #[.pointer (some ⟨X.d, 0, none⟩), .string (str nm), .int .i64 v.log, .slice A N c, .int .u64 (v.floor : Int), .int .u64 (v.cert : Int), .int .u64 (v.at_ : Int), .int .u64 (v.lease : Int), .int .i64 (k : Int), .int .u32 0, .int .i32 0, .int .u32 0, .bool false] 92
      rw [show ∀ o, (w6.alloc o).heap.size = w6.heap.size + 1 from fun _ => by simp] at this
      exact this
    have hb18 := hb17.alloc hb17.size (.cells #[.pointer (some ⟨X.d, 0, none⟩), .string (str nm), .int .i64 v.log, .slice A N c, .int .u64 (v.floor : Int), .int .u64 (v.cert : Int), .int .u64 (v.at_ : Int), .int .u64 (v.lease : Int), .int .i64 (k : Int), .int .u32 0, .int .i32 0, .int .u32 0, .bool false] 92)
    have hvr : ∀ o o', Vrow ((w6.alloc o).alloc o') X (w6.heap.size + 1) ⟨A, N, c⟩ v.files := fun o o' => by
      refine ⟨((((hfr.row.alloc (Nat.le_refl _) o).up (by simp)).alloc (Nat.le_refl _) o').up (by simp)), hfr.nc, hfr.cm, by simp only; omega, fun j hj a ha => ⟨?_, fun hm => ?_⟩⟩
      · obtain ⟨a', e, hb, _⟩ := hfr.row.cell j hj
        simp only at ha
        rw [ha] at e
        injection e with e
        subst e
        omega
      · have h4 := hfr.low a ha
        have h5 := h5.dk.lt _ hm
        omega
    have hGL : ∀ b, bb = b → GLook X w R (.returned (.tuple #[.pointer (some ⟨w6.heap.size + 1, 0, none⟩), .bool b, .int .i64 0])) ((w6.alloc (.cells #[.int .i64 v.log, .slice A N c, .int .u64 (v.floor : Int), .int .u64 (v.cert : Int), .int .u64 (v.at_ : Int), .int .u64 (v.lease : Int)] 31)).alloc (.cells #[.pointer (some ⟨X.d, 0, none⟩), .string (str nm), .int .i64 v.log, .slice A N c, .int .u64 (v.floor : Int), .int .u64 (v.cert : Int), .int .u64 (v.at_ : Int), .int .u64 (v.lease : Int), .int .i64 (k : Int), .int .u32 0, .int .i32 0, .int .u32 0, .bool false] 92)) := fun b hb => GLook.yes (er := 0) (by rw [← hb]; exact HR6.out) hb18 hbx (by omega) (hvr _ _) hN
    have HGL := Lib.hid hGL
    clear hGL hvr hb18 hbx hb17 hb16 hb15 hb6 hvw hlow6 h5 hfr
    by_cases q1 : stop < u.length
    · have q1' : (stop : Int) < (u.length : Int) := by omega
      have hb0 : bb = true := by rw [show bb = _ from HBB.out]; simp [q1]
      have HG2 := Lib.hid (HGL.out true hb0)
      clear q1 hb0 HGL
      go_wp2
      refine bodyPost_ret (v := .tuple #[.pointer (some ⟨w6.heap.size + 1, 0, none⟩), .bool true, .int .i64 0]) (by simp [results, Tryz.results50, go_sem]) rfl HG2.out
    · have q1' : ((stop : Int) < (u.length : Int)) = False := by simp; omega
      by_cases q2 : 30 < k
      · have q2' : (30 : Int) < (k : Int) := by omega
        have hb0 : bb = true := by rw [show bb = _ from HBB.out]; simp [q2]
        have HG2 := Lib.hid (HGL.out true hb0)
        clear q1 q2 hb0 HGL
        go_wp2
        refine bodyPost_ret (v := .tuple #[.pointer (some ⟨w6.heap.size + 1, 0, none⟩), .bool true, .int .i64 0]) (by simp [results, Tryz.results50, go_sem]) rfl HG2.out
      · have q2' : ((30 : Int) < (k : Int)) = False := by simp; omega
        have hb0 : bb = false := by rw [show bb = _ from HBB.out]; simp [q1, q2]
        have HG2 := Lib.hid (HGL.out false hb0)
        clear q1 q2 hb0 HGL
        go_wp2
        refine bodyPost_ret (v := .tuple #[.pointer (some ⟨w6.heap.size + 1, 0, none⟩), .bool false, .int .i64 0]) (by simp [results, Tryz.results50, go_sem]) rfl HG2.out
end Go.Proofs.YthepokgkfaocmaaGreatDoor

/-
  The walk of man.Open, for any disk.
-/
namespace Go.Proofs.YthepokgkfaocmaaGreatDoor
open Go Go.RowKit Go.Shelf
variable {m : Nat} {X X1 : Dw} {w w1 w2 : World} {S S1 : Sd} {M M1 : Gs}

/-- What Open gives. -/
def GOpen (X : Dw) (w : World) (R : Option Gs × Sd × Nat) (e : Ending) (w' : World) : Prop := match R with
  | (none, S', er) => e = .returned (.tuple #[.pointer none, .int .i64 (er : Int)]) ∧ ∃ X', Acc [] X w S' w' X'
  | (some M, S', _) => ∃ P m X', e = .returned (.tuple #[.pointer (some ⟨m, 0, none⟩), .int .i64 0]) ∧ GBorn P X w S' M m w' X'
theorem GOpen.no {R : Option Gs × Sd × Nat} {S' : Sd} {er : Nat} (hR : R = (none, S', er)) {X' : Dw} (h : Acc [] X w S' w1 X') : GOpen X w R (.returned (.tuple #[.pointer none, .int .i64 (er : Int)])) w1 := by
  subst hR
  exact ⟨rfl, X', h⟩
theorem GOpen.yes {R : Option Gs × Sd × Nat} {S' : Sd} {er : Nat} (hR : R = (some M, S', er)) {X' : Dw} {P : Sl} (h : GBorn P X w S' M m w1 X') : GOpen X w R (.returned (.tuple #[.pointer (some ⟨m, 0, none⟩), .int .i64 0])) w1 := by
  subst hR
  exact ⟨P, m, X', rfl, h⟩
theorem acc_born {P P1 : Sl} (h : Dm w X S) (hb : Below w.heap.size w w1) (hm : w.heap.size ≤ m) (k : Gst P m X w1 S1 M1 w2 X1) : Acc [] X w S1 w2 X1 := by
  have b := gborn_of hb hm k
  exact ⟨b.e, b.dm, by simpa using b.c, b.f⟩

set_option maxRecDepth 100000 in
set_option maxHeartbeats 1000000 in
theorem gopen_any (hld : S.load ≤ 1000000000000) (h : Dm w X S) : Calls Tryz.prog 19 #[.pointer (some ⟨X.d, 0, none⟩)] w (GOpen X w (Gw.opens S)) := by
  have hlk := glook_any h
  obtain ⟨R, hR⟩ : ∃ R, R = Gw.opens S := ⟨_, rfl⟩
  rw [← hR]
  unfold Gw.opens at hR
  cases hL : Gw.look S with
  | mk o er =>
    rw [hL] at hlk hR
    cases o with
    | none =>
      simp only at hR
      by_cases her : er = 0
      · exfalso
        subst her
        unfold Gw.look at hL
        split at hL
        · rename_i h1
          simp only [Prod.mk.injEq, true_and] at hL
          exact h1 hL
        · unfold Gw.lookC at hL
          split at hL
          · simp at hL
          · unfold Gw.lookN at hL
            split at hL
            · simp at hL
            · unfold Gw.lookT at hL
              split at hL
              · simp at hL
              · split at hL <;> simp at hL
      have e1 : ((er : Int) == 0) = false := by simp; omega
      have HR := Lib.hid hR
      clear hR her hL
      go_enter Tryz.func19, Tryz.ntmps19
      go_wp2_with fail
      refine hlk.mono ?_
      rintro e w1 ⟨hb1, rfl⟩
      have HG := Lib.hid (GOpen.no HR.out ((Acc.start (F := []) h).below hb1))
      clear hb1
      go_wp2
      go_ret2
      exact HG.out
    | some p =>
      obtain ⟨M, must⟩ := p
      obtain ⟨hvok, hbr⟩ := Gw.look_ok hL
      simp only at hR
      cases must with
      | false =>
        rw [if_neg (by simp)] at hR
        have HR := Lib.hid hR
        clear hR hL
        go_enter Tryz.func19, Tryz.ntmps19
        go_wp2_with fail
        refine hlk.mono ?_
        rintro e w1 ⟨hb1, m, P, rfl, hk, hm1, hvr, hn⟩
        have h1 : Gst P m X w1 S M w1 X := Gst.start (h.below hb1) hk hvr (fun hm => by have := h.dk.lt _ hm; omega) (Nat.le_trans h.env.base hm1)
        have HG := Lib.hid (GOpen.yes HR.out (gborn_of hb1 hm1 h1))
        clear hb1 h1 hk hvr hlk
        go_wp2
        go_ret2
        exact HG.out
      | true =>
        rw [if_pos rfl] at hR
        have HR := Lib.hid hR
        clear hR hL
        go_enter Tryz.func19, Tryz.ntmps19
        go_wp2_with fail
        refine hlk.mono ?_
        rintro e w1 ⟨hb1, m, P, rfl, hk, hm1, hvr, hn⟩
        have h1 : Gst P m X w1 S M w1 X := Gst.start (h.below hb1) hk hvr (fun hm => by have := h.dk.lt _ hm; omega) (Nat.le_trans h.env.base hm1)
        have HRW := Lib.hid (grewriteM_any hvok hld h1)
        clear hk hvr hlk
        go_wp2_with fail
        refine HRW.out.mono ?_
        rintro e w2 ⟨rfl, P2, X2, h2⟩
        by_cases her : (Gw.rewriteM S M).2.2 ≠ 0
        · have e1 : (((Gw.rewriteM S M).2.2 : Int) == 0) = false := by simp; omega
          have HG := Lib.hid (GOpen.no (HR.out.trans (if_pos her)) (acc_born (P1 := P) h hb1 hm1 h2))
          clear h1 h2 her HRW
          go_wp2
          go_ret2
          exact HG.out
        · have e1 : (Gw.rewriteM S M).2.2 = 0 := by omega
          have HG := Lib.hid (GOpen.yes (HR.out.trans (if_neg her)) (gborn_of hb1 hm1 h2))
          rw [e1]
          clear h1 h2 her HRW
          go_wp2
          go_ret2
          exact HG.out
end Go.Proofs.YthepokgkfaocmaaGreatDoor

/-
  Rows of changes, and rows of ints, as arguments bring them in.
-/
namespace Go.Proofs.YthepokgkfaocmaaGreatDoor
open Go Go.RowKit Go.ChangeShapes Go.WideShapes Go.Deep Go.Joins

theorem row_flat {α : Type} (W : World) (a : Addr) (len sz : Nat) (hsz : 0 < sz) (g : α → List Value) (hg : ∀ x, (g x).length = sz) (f : Nat → α)
    (h : ∀ i, i < len → ∀ j v, (g (f i))[j]? = some v → W.cell? (a.add (i * sz + j)) = some v) :
    Row W.heap.size W (some a) len sz (((List.range len).map f).flatMap g) := by
  have hl := gflat_len g sz hg ((List.range len).map f)
  simp only [List.length_map, List.length_range] at hl
  refine ⟨hl, fun k hk => ?_⟩
  have hi : k / sz < len := by
    rw [hl] at hk
    exact Nat.div_lt_of_lt_mul (by rw [Nat.mul_comm]; exact hk)
  have hj : k % sz < sz := Nat.mod_lt _ hsz
  have e : k / sz * sz + k % sz = k := by rw [Nat.mul_comm]; exact Nat.div_add_mod _ _
  have g0 := gflat_get g sz hg ((List.range len).map f) (k / sz) (k % sz) (by simpa using hi) hj
  rw [e, List.getElem_map, List.getElem_range] at g0
  have hjl : k % sz < (g (f (k / sz))).length := by rw [hg]; exact hj
  have hv : (g (f (k / sz)))[k % sz]? = some ((g (f (k / sz)))[k % sz]'hjl) := List.getElem?_eq_getElem hjl
  have hc := h (k / sz) hi _ _ hv
  rw [e] at hc
  have hb := World.block_lt_of_cell? W _ hc
  rw [add_block] at hb
  refine ⟨a, rfl, hb, ?_⟩
  rw [hc, ← List.getElem?_eq_getElem hk, g0, hv]

set_option maxRecDepth 100000 in
/-- A row of changes, opened. -/
theorem edits_of {H : Type} {enc : TypeId × Value → H} {W : World} {base : Nat} {spare : Nat → Bool} {held : Bool} {fuel : Nat} {v : Value} {x : DataW H × List MemPlace}
    (h : DataW.trod enc Tryz.prog W base spare held fuel 50 [v] = some x) : ∃ (A : Option Addr) (n c : Nat) (xs : List Ev), v = .slice A n c ∧ n ≤ c ∧ c ≤ maxLen ∧ Eds W.heap.size W A n xs := by
  rcases open_slice_fields Tryz.underlying50 Tryz.underlying39 (by kernel_rfl) (by kernel_rfl) h with hcs | ⟨a, l, c, m, hcs, hl, hm, hmm, hx⟩
  · simp at hcs
    subst hcs
    exact ⟨none, 0, 0, [], rfl, Nat.le_refl _, Nat.zero_le _, Row.nil_, fun x hx => by cases hx⟩
  · simp at hcs
    subst hcs
    have hlm : l ≤ m := by subst hmm; split <;> omega
    have key : ∀ i : Nat, ∃ p : Ev, i < l → p.ok W.heap.size W ∧ ∀ j v, p.cs[j]? = some v → W.cell? (a.add (i * 7 + j)) = some v := by
      intro i
      by_cases hi : i < l
      · obtain ⟨ys, n, hf⟩ := hx i (by omega)
        obtain ⟨v0, y0, h0, _, t0⟩ := hf 0 _ rfl
        obtain ⟨v1, y1, h1, _, t1⟩ := hf 1 _ rfl
        obtain ⟨v2, y2, h2, _, t2⟩ := hf 2 _ rfl
        obtain ⟨v3, y3, h3, _, t3⟩ := hf 3 _ rfl
        obtain ⟨v4, y4, h4, _, t4⟩ := hf 4 _ rfl
        obtain ⟨v5, y5, h5, _, t5⟩ := hf 5 _ rfl
        obtain ⟨v6, y6, h6, _, t6⟩ := hf 6 _ rfl
        obtain ⟨D, dm, dd, ds, rfl, _, _, rd⟩ := ints_of t0
        obtain ⟨A, fm, fc, fs, rfl, nc, cm, ra⟩ := files_of t1
        obtain ⟨z2, e2, _, _⟩ := DataW.trod_int Tryz.underlying3 t2
        obtain ⟨z3, e3, _, w3⟩ := DataW.trod_int Tryz.underlying29 t3
        obtain ⟨z4, e4, _, w4⟩ := DataW.trod_int Tryz.underlying29 t4
        obtain ⟨z5, e5, _, w5⟩ := DataW.trod_int Tryz.underlying29 t5
        obtain ⟨z6, e6, _, w6⟩ := DataW.trod_int Tryz.underlying29 t6
        simp at e2 e3 e4 e5 e6
        subst e2 e3 e4 e5 e6
        obtain ⟨u3, rfl, b3⟩ := wfu64 w3
        obtain ⟨u4, rfl, b4⟩ := wfu64 w4
        obtain ⟨u5, rfl, b5⟩ := wfu64 w5
        obtain ⟨u6, rfl, b6⟩ := wfu64 w6
        refine ⟨⟨⟨ds, fs, z2, u3, u4, u5, u6⟩, D, dm, dd, A, fm, fc⟩, fun _ => ⟨⟨rd, ra, nc, cm⟩, fun j v hj => ?_⟩⟩
        match j, hj with
        | 0, hj => injection hj with hj; subst hj; exact h0
        | 1, hj => injection hj with hj; subst hj; exact h1
        | 2, hj => injection hj with hj; subst hj; exact h2
        | 3, hj => injection hj with hj; subst hj; exact h3
        | 4, hj => injection hj with hj; subst hj; exact h4
        | 5, hj => injection hj with hj; subst hj; exact h5
        | 6, hj => injection hj with hj; subst hj; exact h6
        | j + 7, hj => cases hj
      · exact ⟨⟨⟨[], [], 0, 0, 0, 0, 0⟩, none, 0, 0, none, 0, 0⟩, fun h => absurd h hi⟩
    obtain ⟨f, hf⟩ := Classical.axiomOfChoice key
    refine ⟨some a, l, c, (List.range l).map f, rfl, hl, hm, row_flat W a l 7 (by omega) Ev.cs Ev.cs_len f (fun i hi => (hf i hi).2), fun x hx => ?_⟩
    obtain ⟨i, hi, rfl⟩ := List.mem_map.1 hx
    exact (hf i (List.mem_range.1 hi)).1
set_option maxRecDepth 100000 in
theorem edits_arg {H : Type} {enc : TypeId × Value → H} {W : World} {base b0 : Nat} {r : Reach} {spare : Nat → Bool} {held : Bool} {v : Value} {d : DataW H} {p : List MemPlace}
    (hv : Value.okWide Tryz.prog W r b0 50 v) (h : DataW.Trod enc Tryz.prog W base spare held 50 v d p) :
    ∃ (A : Option Addr) (n c : Nat) (xs : List Ev), v = .slice A n c ∧ n ≤ c ∧ c ≤ maxLen ∧ Eds W.heap.size W A n xs := by
  obtain ⟨fuel, hf⟩ := h
  obtain ⟨a, n, c, rfl⟩ := okWide_slice Tryz.underlying50 hv
  have hc : (Value.slice a n c).cells.toList = [.slice a n c] := rfl
  rw [hc] at hf
  exact edits_of hf
end Go.Proofs.YthepokgkfaocmaaGreatDoor

/-
  Five and six arguments, read and written back; rows of ints as arguments.
-/
namespace Go.Proofs.YthepokgkfaocmaaGreatDoor
open Go Go.RowKit Go.ChangeShapes Go.WideShapes Go.ChangeAt
section
variable {H : Type} {enc : TypeId × Value → H} {P : Program} {w : World} {base : Nat} {spare : Nat → Bool} {held : Bool}
theorem trodAll_five {t0 t1 t2 t3 t4 : TypeId} {args : Array Value} {ds : List (DataW H)} {ps : List MemPlace} (h : DataW.TrodAll enc P w base spare held [t0, t1, t2, t3, t4] args.toList ds ps) :
    ∃ v0 v1 v2 v3 v4 d0 d1 d2 d3 d4 p0 p1 p2 p3 p4, args = #[v0, v1, v2, v3, v4] ∧ ds = [d0, d1, d2, d3, d4] ∧ ps = p0 ++ p1 ++ p2 ++ p3 ++ p4 ∧ DataW.Trod enc P w base spare held t0 v0 d0 p0 ∧ DataW.Trod enc P w base spare held t1 v1 d1 p1 ∧ DataW.Trod enc P w base spare held t2 v2 d2 p2 ∧ DataW.Trod enc P w base spare held t3 v3 d3 p3 ∧ DataW.Trod enc P w base spare held t4 v4 d4 p4 := by
  obtain ⟨v0, vs0, d0, ds0, p0, q0, hargs, rfl, rfl, h0, r0⟩ := trodAll_cons h
  obtain ⟨v1, vs1, d1, ds1, p1, q1, rfl, rfl, rfl, h1, r1⟩ := trodAll_cons r0
  obtain ⟨v2, vs2, d2, ds2, p2, q2, rfl, rfl, rfl, h2, r2⟩ := trodAll_cons r1
  obtain ⟨v3, vs3, d3, ds3, p3, q3, rfl, rfl, rfl, h3, r3⟩ := trodAll_cons r2
  obtain ⟨v4, vs4, d4, ds4, p4, q4, rfl, rfl, rfl, h4, r4⟩ := trodAll_cons r3
  obtain ⟨rfl, rfl, rfl⟩ := trodAll_nil r4
  exact ⟨v0, v1, v2, v3, v4, d0, d1, d2, d3, d4, p0, p1, p2, p3, p4, (by cases args; simp_all), rfl, (by simp), h0, h1, h2, h3, h4⟩
theorem trodAll_mk5 {t0 t1 t2 t3 t4 : TypeId} {v0 v1 v2 v3 v4 : Value} {d0 d1 d2 d3 d4 : DataW H} {p0 p1 p2 p3 p4 : List MemPlace} (h0 : DataW.Trod enc P w base spare held t0 v0 d0 p0) (h1 : DataW.Trod enc P w base spare held t1 v1 d1 p1) (h2 : DataW.Trod enc P w base spare held t2 v2 d2 p2) (h3 : DataW.Trod enc P w base spare held t3 v3 d3 p3) (h4 : DataW.Trod enc P w base spare held t4 v4 d4 p4) : DataW.TrodAll enc P w base spare held [t0, t1, t2, t3, t4] [v0, v1, v2, v3, v4] [d0, d1, d2, d3, d4] (p0 ++ (p1 ++ (p2 ++ (p3 ++ p4)))) := ⟨p0, p1 ++ (p2 ++ (p3 ++ p4)), h0, trodAll_mk4 h1 h2 h3 h4, rfl⟩
theorem trodAll_six {t0 t1 t2 t3 t4 t5 : TypeId} {args : Array Value} {ds : List (DataW H)} {ps : List MemPlace} (h : DataW.TrodAll enc P w base spare held [t0, t1, t2, t3, t4, t5] args.toList ds ps) :
    ∃ v0 v1 v2 v3 v4 v5 d0 d1 d2 d3 d4 d5 p0 p1 p2 p3 p4 p5, args = #[v0, v1, v2, v3, v4, v5] ∧ ds = [d0, d1, d2, d3, d4, d5] ∧ ps = p0 ++ p1 ++ p2 ++ p3 ++ p4 ++ p5 ∧ DataW.Trod enc P w base spare held t0 v0 d0 p0 ∧ DataW.Trod enc P w base spare held t1 v1 d1 p1 ∧ DataW.Trod enc P w base spare held t2 v2 d2 p2 ∧ DataW.Trod enc P w base spare held t3 v3 d3 p3 ∧ DataW.Trod enc P w base spare held t4 v4 d4 p4 ∧ DataW.Trod enc P w base spare held t5 v5 d5 p5 := by
  obtain ⟨v0, vs0, d0, ds0, p0, q0, hargs, rfl, rfl, h0, r0⟩ := trodAll_cons h
  obtain ⟨v1, vs1, d1, ds1, p1, q1, rfl, rfl, rfl, h1, r1⟩ := trodAll_cons r0
  obtain ⟨v2, vs2, d2, ds2, p2, q2, rfl, rfl, rfl, h2, r2⟩ := trodAll_cons r1
  obtain ⟨v3, vs3, d3, ds3, p3, q3, rfl, rfl, rfl, h3, r3⟩ := trodAll_cons r2
  obtain ⟨v4, vs4, d4, ds4, p4, q4, rfl, rfl, rfl, h4, r4⟩ := trodAll_cons r3
  obtain ⟨v5, vs5, d5, ds5, p5, q5, rfl, rfl, rfl, h5, r5⟩ := trodAll_cons r4
  obtain ⟨rfl, rfl, rfl⟩ := trodAll_nil r5
  exact ⟨v0, v1, v2, v3, v4, v5, d0, d1, d2, d3, d4, d5, p0, p1, p2, p3, p4, p5, (by cases args; simp_all), rfl, (by simp), h0, h1, h2, h3, h4, h5⟩
theorem trodAll_mk6 {t0 t1 t2 t3 t4 t5 : TypeId} {v0 v1 v2 v3 v4 v5 : Value} {d0 d1 d2 d3 d4 d5 : DataW H} {p0 p1 p2 p3 p4 p5 : List MemPlace} (h0 : DataW.Trod enc P w base spare held t0 v0 d0 p0) (h1 : DataW.Trod enc P w base spare held t1 v1 d1 p1) (h2 : DataW.Trod enc P w base spare held t2 v2 d2 p2) (h3 : DataW.Trod enc P w base spare held t3 v3 d3 p3) (h4 : DataW.Trod enc P w base spare held t4 v4 d4 p4) (h5 : DataW.Trod enc P w base spare held t5 v5 d5 p5) : DataW.TrodAll enc P w base spare held [t0, t1, t2, t3, t4, t5] [v0, v1, v2, v3, v4, v5] [d0, d1, d2, d3, d4, d5] (p0 ++ (p1 ++ (p2 ++ (p3 ++ (p4 ++ p5))))) := ⟨p0, p1 ++ (p2 ++ (p3 ++ (p4 ++ p5))), h0, trodAll_mk5 h1 h2 h3 h4 h5, rfl⟩
end
set_option maxRecDepth 100000 in
theorem ints_arg {H : Type} {enc : TypeId × Value → H} {W : World} {base b0 : Nat} {r : Reach} {spare : Nat → Bool} {held : Bool} {v : Value} {d : DataW H} {p : List MemPlace}
    (hv : Value.okWide Tryz.prog W r b0 37 v) (h : DataW.Trod enc Tryz.prog W base spare held 37 v d p) :
    ∃ (A : Option Addr) (n c : Nat) (ns : List Int), v = .slice A n c ∧ n ≤ c ∧ c ≤ maxLen ∧ Row W.heap.size W A n 1 (icells ns) := by
  obtain ⟨fuel, hf⟩ := h
  obtain ⟨a, n, c, rfl⟩ := okWide_slice Tryz.underlying37 hv
  have hc : (Value.slice a n c).cells.toList = [.slice a n c] := rfl
  rw [hc] at hf
  exact ints_of hf
end Go.Proofs.YthepokgkfaocmaaGreatDoor

/-
  The laws' calls on a disk and its manifest, each as what becomes of both; the bytes of a name read, removed, written anew.
-/
namespace Go.Proofs.YthepokgkfaocmaaGreatDoor
open Go Go.RowKit Go.Shelf
variable {P P1 : Sl} {W0 w w1 w2 : World} {X X1 : Dw} {S S1 : Sd} {m m1 : Nat} {M M1 : Gs}

/-- What a call leaves that gives an error's number. -/
def LErr (W0 : World) (m xd : Nat) (R : Sd × Gs × Nat) (e : Ending) (w' : World) : Prop := e = .returned (.int .i64 (R.2.2 : Int)) ∧ ∃ P' X', X'.d = xd ∧ GAt P' W0 w' X' R.1 m R.2.1
theorem LErr.left (h : GAt P W0 w X S m M) {R : Sd × Gs × Nat} {e : Ending} (k : GLeft m X w R e w1) : LErr W0 m X.d R e w1 := by
  obtain ⟨a, P', X', b⟩ := k
  exact ⟨a, P', X', b.acc.e, h.mst_left b⟩
theorem GAt.few (h : GAt P W0 w X S m M) (hv : M.v.ok = true) : P.n ≤ 40 := by
  have h1 := h.row.row.flen
  simp only [Vw.ok, Bool.and_eq_true, decide_eq_true_eq] at hv
  omega
theorem GAt.save (h : GAt P W0 w X S m M) (hn : NG ≤ W0.heap.size) (hv : M.v.ok = true) (hc : M.count ≤ 1000000000) (hl : M.name.length ≤ 1000) (x : Ev) (hx : x.ok w.heap.size w) (hm : x.m ≤ 1000000) (hn2 : x.n ≤ 1000000) :
    Calls Tryz.prog 15 #[.pointer (some ⟨m, 0, none⟩), x.e.val x.D x.m x.d x.A x.n x.c] w (LErr W0 m X.d (Gw.save S M x.e)) :=
  (gsave_any x.e x.D x.m x.d x.A x.n x.c hm hn2 hx.d hx.a (h.few hv) hc hl (h.mst hn)).mono fun _ _ k => LErr.left h k
theorem GAt.rewrite (h : GAt P W0 w X S m M) (hn : NG ≤ W0.heap.size) (hv : M.v.ok = true) (hld : S.load ≤ 1000000000000) :
    Calls Tryz.prog 31 #[.pointer (some ⟨m, 0, none⟩)] w (LErr W0 m X.d (Gw.rewriteM S M)) :=
  (grewriteM_any hv hld (h.mst hn)).mono fun _ _ k => LErr.left h k
/-- What an Open leaves: the manifest that was opened, or none; the one of before lies where it lay. -/
def LOpen (P : Sl) (W0 w : World) (m : Nat) (X : Dw) (M : Gs) (R : Option Gs × Sd × Nat) (e : Ending) (w' : World) : Prop := match R with
  | (none, S', er) => e = .returned (.tuple #[.pointer none, .int .i64 (er : Int)]) ∧ ∃ X', X'.d = X.d ∧ GAt P W0 w' X' S' m M ∧ Chg X.foot w w' ∧ ∀ g ∈ X'.foot, g ∈ X.foot ∨ w.heap.size ≤ g
  | (some M', S', _) => ∃ P' m' X', e = .returned (.tuple #[.pointer (some ⟨m', 0, none⟩), .int .i64 0]) ∧ X'.d = X.d ∧ GAt P' W0 w' X' S' m' M' ∧ Chg X.foot w w' ∧ (∀ g ∈ X'.foot, g ∈ X.foot ∨ w.heap.size ≤ g) ∧ w.heap.size ≤ m' ∧ GK w' m X.d M P ∧ m ∉ X'.foot ∧ m ≠ m'
theorem GAt.open_ (h : GAt P W0 w X S m M) (hld : S.load ≤ 1000000000000) :
    Calls Tryz.prog 19 #[.pointer (some ⟨X.d, 0, none⟩)] w (LOpen P W0 w m X M (Gw.opens S)) := by
  refine (gopen_any hld h.dm).mono fun e w' k => ?_
  unfold GOpen at k
  unfold LOpen
  generalize Gw.opens S = R at k ⊢
  obtain ⟨o, S', er⟩ := R
  cases o with
  | none =>
    obtain ⟨a, X', b⟩ := k
    exact ⟨a, X', b.e, h.acc b, by simpa using b.c, b.f⟩
  | some M' =>
    obtain ⟨P', m', X', a, b⟩ := k
    have hb := h.born b
    refine ⟨P', m', X', a, b.e, hb.1, b.c, b.f, b.new, hb.2, fun hm => ?_, ?_⟩
    · rcases b.f m hm with h1 | h1
      · exact h.away h1
      · have := h.man.lt; omega
    · have h1 := b.new
      have h2 := h.man.lt
      omega
/-- What a call of the disk leaves. -/
def LDisk (P : Sl) (W0 w : World) (m : Nat) (X : Dw) (M : Gs) (R : Sd × Nat) (e : Ending) (w' : World) : Prop := e = .returned (.int .i64 (R.2 : Int)) ∧ ∃ X', X'.d = X.d ∧ GAt P W0 w' X' R.1 m M ∧ Chg X.foot w w' ∧ ∀ g ∈ X'.foot, g ∈ X.foot ∨ w.heap.size ≤ g
theorem GAt.acc0 (h : GAt P W0 w X S m M) : Acc [] X w S w X := Acc.start h.dm
theorem GAt.remove (h : GAt P W0 w X S m M) (s : ByteArray) (hs : s.size ≤ maxLen) (hl : S.load ≤ 1099511627776) :
    Calls Tryz.prog 16 #[.pointer (some ⟨X.d, 0, none⟩), .string s] w (LDisk P W0 w m X M (S.remove s.data.toList)) :=
  (h.acc0.remove s hs hl).mono fun _ _ ⟨a, X', b⟩ => ⟨a, X', b.e, h.acc b, by simpa using b.c, b.f⟩
theorem GAt.create (h : GAt P W0 w X S m M) (s : ByteArray) (hs : s.size ≤ maxLen) (hl : S.load ≤ 1099511627776) :
    Calls Tryz.prog 17 #[.pointer (some ⟨X.d, 0, none⟩), .string s] w (LDisk P W0 w m X M (S.create s.data.toList)) :=
  (h.acc0.create s hs hl).mono fun _ _ ⟨a, X', b⟩ => ⟨a, X', b.e, h.acc b, by simpa using b.c, b.f⟩
theorem GAt.append (h : GAt P W0 w X S m M) (s : ByteArray) (hs : s.size ≤ maxLen) (A : Option Addr) (k c : Nat) (b : List UInt8) (hk : k ≤ 1099511627776) (hr : Row w.heap.size w A k 1 (bts b)) (hA : ∀ a, A = some a → a.block ∉ X.foot) :
    Calls Tryz.prog 18 #[.pointer (some ⟨X.d, 0, none⟩), .string s, .slice A k c] w (LDisk P W0 w m X M (S.append s.data.toList b)) :=
  (h.acc0.append s hs A k c b hk hr hA).mono fun _ _ ⟨a, X', b⟩ => ⟨a, X', b.e, h.acc b, by simpa using b.c, b.f⟩
/-- The disk's own struct alone has changed. -/
theorem GAt.rebox (h : GAt P W0 w X S m M) (hw : S1.Wf) (hd : DK w1 X S1) (c : Chg [X.d] w w1) : GAt P W0 w1 X S1 m M := by
  have hdm : Dm w1 X S1 := ⟨hd, hw, h.dm.env.chg c (fun g hg => by rw [List.mem_singleton.1 hg]; exact h.dm.base _ (mem_foot.2 (.inl rfl))), h.dm.base⟩
  have k : Acc [] X w S1 w1 X := ⟨rfl, hdm, c.mono (fun g hg => .inl (by rw [List.mem_singleton.1 hg]; exact mem_foot.2 (.inl rfl))), fun g hg => .inl hg⟩
  exact h.acc k
theorem GAt.stop (h : GAt P W0 w X S m M) (n : Int) (hn : n ≤ 9223372036854775807) :
    Calls Tryz.prog 32 #[.pointer (some ⟨X.d, 0, none⟩), .int .i64 n] w fun e w' => e = .returned (.tuple #[]) ∧ GAt P W0 w' X (S.setStop n) m M :=
  (stop_any X S n w h.dm.dk).mono fun _ _ ⟨a, b, c⟩ => ⟨a, h.rebox (h.dm.wf.setStop n hn) b c⟩
theorem GAt.fail (h : GAt P W0 w X S m M) (n : Int) (hn : n ≤ 9223372036854775807) :
    Calls Tryz.prog 29 #[.pointer (some ⟨X.d, 0, none⟩), .int .i64 n] w fun e w' => e = .returned (.tuple #[]) ∧ GAt P W0 w' X (S.setFail n) m M :=
  (fail_any X S n w h.dm.dk).mono fun _ _ ⟨a, b, c⟩ => ⟨a, h.rebox (h.dm.wf.setFail n hn) b c⟩
theorem GAt.dead (h : GAt P W0 w X S m M) : Calls Tryz.prog 33 #[.pointer (some ⟨X.d, 0, none⟩)] w fun e w' => e = .returned (.bool S.dead) ∧ w = w' :=
  dead_any X.d S.dead w (h.dm.dk.box.cell 6)
theorem GAt.view (h : GAt P W0 w X S m M) : Calls Tryz.prog 20 #[.pointer (some ⟨m, 0, none⟩)] w fun e w' => ∃ A c, e = .returned (M.v.val A P.n c) ∧ Fresh w.heap.size w' A P.n c M.v.files ∧ Below w.heap.size w w' :=
  gmview_any X.d h.man h.row.row h.row.nb
/-- A View that was told is the same as another one, or is not. -/
theorem GAt.same (v : Vw) (A : Option Addr) (c : Nat) {n : Nat} (hf : Fresh w.heap.size w1 A n c v.files) (hb : Below w.heap.size w w1) (y : Vc) (hy : y.ok w.heap.size w) (hn : n ≤ 10000) :
    Calls Tryz.prog 27 #[v.val A n c, y.v.val y.A y.n y.c] w1 fun e w' => e = .returned (.bool (v.same y.v)) ∧ Below w1.heap.size w1 w' :=
  sameview_any v y.v A n c y.A y.n y.c w1 (by omega) (by have := hy.few; omega) hf.row ((hy.row.below hb).up hb.size)
/-- A block that neither the disk nor the manifest has has changed. -/
theorem GAt.other (h : GAt P W0 w X S m M) {g : Nat} (c : Chg [g] w w1) (h1 : g ∉ X.foot) (h2 : g ≠ m) (h3 : ∀ j, j < (fcells M.v.files).length → ∀ a, P.a = some a → a.block ≠ g) (h0 : W0.heap.size ≤ g) (hn : NG ≤ W0.heap.size) : GAt P W0 w1 X S m M :=
  ⟨h.dm.chg c (fun b hb => by rw [List.mem_singleton.1 hb]; exact ⟨h1, Nat.le_trans hn h0⟩), h.man.chg c (by simpa using h2.symm), ⟨(row_chg c h.row.row (Nat.le_refl _) (fun j hj a ha hm => h3 j hj a ha (List.mem_singleton.1 hm))).up c.size, h.row.nc, h.row.cm, h.row.nb, h.row.away⟩, h.away, h.low, h.lowm,
    h.bel.trans (c.under h.bel.size (fun b hb => by rw [List.mem_singleton.1 hb]; exact h0))⟩
end Go.Proofs.YthepokgkfaocmaaGreatDoor

/-
  The plain law of the sums, behind: the register's step is linear and one to one; what a text's last four bytes do; what turned bits do. No program in sight.
-/
namespace Go.Proofs.YthepokgkfaocmaaGreatDoor
namespace Crc

theorem step_eq (n : BitVec 32) : step n = (n >>> 1) ^^^ (if n.getLsbD 0 then poly else 0#32) := by
  unfold step
  congr 1
  have h : n &&& 1#32 = if n.getLsbD 0 then 1#32 else 0#32 := by
    apply BitVec.eq_of_getLsbD_eq
    intro i hi
    rcases i with _ | i
    · cases hn : n.getLsbD 0 <;> simpa using hn
    · cases n.getLsbD 0 <;> simp
  rw [h]
  cases n.getLsbD 0 <;> decide

theorem step_xor (a b : BitVec 32) : step (a ^^^ b) = step a ^^^ step b := by
  rw [step_eq, step_eq, step_eq, BitVec.ushiftRight_xor_distrib, BitVec.getLsbD_xor]
  cases a.getLsbD 0 <;> cases b.getLsbD 0
  · simp
  · simp [BitVec.xor_assoc]
  · simp only [Bool.true_xor, Bool.not_false, if_true, Bool.false_eq_true, if_false, BitVec.xor_zero]
    rw [BitVec.xor_assoc, BitVec.xor_assoc, BitVec.xor_comm (b >>> 1)]
  · simp only [Bool.true_xor, Bool.not_true, if_true, Bool.false_eq_true, if_false, BitVec.xor_zero]
    rw [← BitVec.xor_assoc, BitVec.xor_assoc (a >>> 1), BitVec.xor_comm poly, ← BitVec.xor_assoc, BitVec.xor_assoc _ poly, BitVec.xor_self, BitVec.xor_zero]

theorem step_zero : step 0#32 = 0#32 := by decide
theorem step_null (d : BitVec 32) (h : step d = 0#32) : d = 0#32 := by
  rw [step_eq] at h
  cases hd : d.getLsbD 0
  · rw [hd] at h
    simp only [Bool.false_eq_true, if_false, BitVec.xor_zero] at h
    apply BitVec.eq_of_getLsbD_eq
    intro i hi
    rcases i with _ | i
    · simpa using hd
    · have := congrArg (fun x => x.getLsbD i) h
      simpa [Nat.add_comm] using this
  · rw [hd] at h
    have := congrArg (fun x => x.getLsbD 31) h
    simp at this
    exact absurd this (by decide)
theorem xor_eq_zero {a b : BitVec 32} (h : a ^^^ b = 0#32) : a = b := by
  have := congrArg (· ^^^ b) h
  simpa [BitVec.xor_assoc] using this
theorem step_inj {a b : BitVec 32} (h : step a = step b) : a = b := by
  apply xor_eq_zero
  apply step_null
  rw [step_xor, h, BitVec.xor_self]

theorem steps_xor (k : Nat) (a b : BitVec 32) : steps k (a ^^^ b) = steps k a ^^^ steps k b := by
  induction k generalizing a b with
  | zero => rfl
  | succ k ih => simp only [steps, step_xor, ih]
theorem steps_zero (k : Nat) : steps k 0#32 = 0#32 := by
  induction k with
  | zero => rfl
  | succ k ih => simp only [steps, step_zero, ih]
theorem steps_inj {k : Nat} {a b : BitVec 32} (h : steps k a = steps k b) : a = b := by
  induction k generalizing a b with
  | zero => exact h
  | succ k ih => exact step_inj (ih h)
theorem steps_null {k : Nat} {a : BitVec 32} (h : steps k a = 0#32) : a = 0#32 := steps_inj (h.trans (steps_zero k).symm)

/-- Linear in the register and in the text. -/
theorem byte_xor (a b : BitVec 32) (c d : UInt8) : byte (a ^^^ b) (c ^^^ d) = byte a c ^^^ byte b d := by
  unfold byte
  rw [← steps_xor]
  congr 1
  have : BitVec.ofNat 32 (c ^^^ d).toNat = BitVec.ofNat 32 c.toNat ^^^ BitVec.ofNat 32 d.toNat := by
    apply BitVec.eq_of_toNat_eq
    simp only [BitVec.toNat_ofNat, BitVec.toNat_xor, UInt8.toNat_xor, Nat.xor_mod_two_pow]
  rw [this, BitVec.xor_assoc, BitVec.xor_assoc]
  congr 1
  rw [← BitVec.xor_assoc, BitVec.xor_comm b, BitVec.xor_assoc]

def xorl : List UInt8 → List UInt8 → List UInt8
  | c :: l, d :: m => (c ^^^ d) :: xorl l m
  | _, _ => []
theorem add_xor (a b : BitVec 32) (l m : List UInt8) (h : l.length = m.length) : add (a ^^^ b) (xorl l m) = add a l ^^^ add b m := by
  induction l generalizing a b m with
  | nil => cases m with
    | nil => rfl
    | cons d m => simp at h
  | cons c l ih => cases m with
    | nil => simp at h
    | cons d m =>
      simp only [xorl, add, byte_xor]
      exact ih _ _ m (by simpa using h)
theorem add_reg (a b : BitVec 32) (l : List UInt8) : add (a ^^^ b) l = add a l ^^^ steps (8 * l.length) b := by
  induction l generalizing a b with
  | nil => rfl
  | cons c l ih =>
    simp only [add]
    have h : byte (a ^^^ b) c = byte a c ^^^ steps 8 b := by
      unfold byte
      rw [← steps_xor]
      congr 1
      rw [BitVec.xor_assoc, BitVec.xor_assoc, BitVec.xor_comm b]
    rw [h, ih, ← steps_add, List.length_cons]
    congr 2
    omega

/-- The last four bytes. -/
theorem step_shift (y : BitVec 32) (h : y.getLsbD 31 = false) : step (y <<< 1) = y := by
  rw [step_eq]
  have h0 : (y <<< 1).getLsbD 0 = false := by simp
  rw [h0]
  simp only [Bool.false_eq_true, if_false, BitVec.xor_zero]
  apply BitVec.eq_of_getLsbD_eq
  intro i hi
  rw [BitVec.getLsbD_ushiftRight, BitVec.getLsbD_shiftLeft]
  rcases Nat.lt_or_ge i 31 with h1 | h1
  · have h2 : 1 + i < 32 := by omega
    simp [h2]
  · have : i = 31 := by omega
    subst this
    rw [h]
    simp
theorem steps_shift (k : Nat) (y : BitVec 32) (hk : k ≤ 32) (h : ∀ i, 32 - k ≤ i → y.getLsbD i = false) : steps k (y <<< k) = y := by
  induction k generalizing y with
  | zero => simp [steps]
  | succ k ih =>
    have e : y <<< (k + 1) = (y <<< k) <<< 1 := by rw [BitVec.shiftLeft_add]
    simp only [steps]
    rw [e, step_shift _ (by
      rw [BitVec.getLsbD_shiftLeft]
      rcases Nat.lt_or_ge 31 k with h1 | h1
      · omega
      · simp [h (31 - k) (by omega)])]
    exact ih y (by omega) fun i hi => h i (by omega)
theorem byte_split (s x : BitVec 32) : steps 8 (s ^^^ x) = byte s (UInt8.ofNat x.toNat) ^^^ (x >>> 8) := by
  have e : x = BitVec.ofNat 32 (UInt8.ofNat x.toNat).toNat ^^^ ((x >>> 8) <<< 8) := by
    apply BitVec.eq_of_getLsbD_eq
    intro i hi
    have hb : (BitVec.ofNat 32 (UInt8.ofNat x.toNat).toNat).getLsbD i = (decide (i < 8) && x.getLsbD i) := by
      rw [BitVec.getLsbD_ofNat, UInt8.toNat_ofNat', Nat.testBit_mod_two_pow]
      simp [hi, BitVec.getLsbD]
    rw [BitVec.getLsbD_xor, hb, BitVec.getLsbD_shiftLeft, BitVec.getLsbD_ushiftRight]
    rcases Nat.lt_or_ge i 8 with h8 | h8
    · simp [h8]
    · have h8' : ¬ i < 8 := by omega
      rw [show 8 + (i - 8) = i from by omega]
      simp [h8', hi]
  have h1 : steps 8 ((x >>> 8) <<< 8) = x >>> 8 := steps_shift 8 _ (by omega) fun i hi => by
    rw [BitVec.getLsbD_ushiftRight]
    exact BitVec.getLsbD_of_ge _ _ (by omega)
  unfold byte
  have h2 : steps 8 (s ^^^ BitVec.ofNat 32 (UInt8.ofNat x.toNat).toNat) ^^^ (x >>> 8) = steps 8 ((s ^^^ BitVec.ofNat 32 (UInt8.ofNat x.toNat).toNat) ^^^ ((x >>> 8) <<< 8)) := by
    rw [steps_xor _ (s ^^^ _), h1]
  rw [h2, BitVec.xor_assoc, ← e]
theorem add_four (s x : BitVec 32) : add s (four x) = steps 32 (s ^^^ x) := by
  have d8 : ∀ y : BitVec 32, (y >>> 8).toNat = y.toNat / 256 := fun y => by rw [BitVec.toNat_ushiftRight, Nat.shiftRight_eq_div_pow]
  have e1 : x.toNat / 256 = (x >>> 8).toNat := (d8 x).symm
  have e2 : x.toNat / 65536 = ((x >>> 8) >>> 8).toNat := by rw [d8, d8, Nat.div_div_eq_div_mul]
  have e3 : x.toNat / 16777216 = (((x >>> 8) >>> 8) >>> 8).toNat := by rw [d8, d8, d8, Nat.div_div_eq_div_mul, Nat.div_div_eq_div_mul]
  have e4 : ((((x >>> 8) >>> 8) >>> 8) >>> 8) = 0#32 := by
    apply BitVec.eq_of_toNat_eq
    rw [d8, d8, d8, d8]
    have := x.isLt
    simp
    omega
  have e0 : steps 32 (s ^^^ x) = steps 8 (steps 8 (steps 8 (steps 8 (s ^^^ x)))) := rfl
  rw [e0, byte_split, byte_split, byte_split, byte_split, e4, BitVec.xor_zero, four, e1, e2, e3]
  rfl
theorem sum_last {l : List UInt8} {x y : BitVec 32} (h : sum (l ++ four x) = sum (l ++ four y)) : x = y := by
  unfold sum at h
  have h1 : add ones (l ++ four x) = add ones (l ++ four y) := by
    have := congrArg (fun z => ~~~ z) h
    simpa using this
  rw [add_append, add_append, add_four, add_four] at h1
  have h2 := steps_inj h1
  have := congrArg (fun z => add ones l ^^^ z) h2
  simpa [← BitVec.xor_assoc] using this

/-- A sealed text leaves the register at one number. -/
def rest : BitVec 32 := steps 32 ones
theorem add_sealed (l : List UInt8) : add ones (sealed l) = rest := by
  unfold sealed sum
  rw [add_append, add_four]
  unfold rest
  congr 1
  rw [← BitVec.xor_allOnes, ← BitVec.xor_assoc, BitVec.xor_self, BitVec.zero_xor]
  rfl
theorem sealed_length (l : List UInt8) : (sealed l).length = l.length + 4 := by simp [sealed, four]
theorem sealed_take (l : List UInt8) : (sealed l).take l.length = l := by simp [sealed]

def num4 (a b c d : UInt8) : BitVec 32 := BitVec.ofNat 32 (a.toNat + b.toNat * 256 + c.toNat * 65536 + d.toNat * 16777216)
theorem four_num4 (a b c d : UInt8) : four (num4 a b c d) = [a, b, c, d] := by
  have ha := a.toNat_lt
  have hb := b.toNat_lt
  have hc := c.toNat_lt
  have hd := d.toNat_lt
  have hn : (num4 a b c d).toNat = a.toNat + b.toNat * 256 + c.toNat * 65536 + d.toNat * 16777216 := by
    unfold num4
    rw [BitVec.toNat_ofNat, Nat.mod_eq_of_lt (by omega)]
  unfold four
  rw [hn]
  congr 1
  · apply UInt8.toNat_inj.1; rw [UInt8.toNat_ofNat']; omega
  congr 1
  · apply UInt8.toNat_inj.1; rw [UInt8.toNat_ofNat']; omega
  congr 1
  · apply UInt8.toNat_inj.1; rw [UInt8.toNat_ofNat']; omega
  congr 1
  · apply UInt8.toNat_inj.1; rw [UInt8.toNat_ofNat']; omega
/-- A text is what its own front, sealed, comes to, just if it leaves the register at that number. -/
theorem good_iff (t : List UInt8) (h : 4 ≤ t.length) : sealed (t.take (t.length - 4)) = t ↔ add ones t = rest := by
  constructor
  · intro e
    rw [← e]
    exact add_sealed _
  · intro e
    obtain ⟨a, b, c, d, hd⟩ : ∃ a b c d, t.drop (t.length - 4) = [a, b, c, d] := by
      have hl : (t.drop (t.length - 4)).length = 4 := by rw [List.length_drop]; omega
      match hh : t.drop (t.length - 4), hl with
      | [a, b, c, d], _ => exact ⟨a, b, c, d, rfl⟩
    have ht : t = t.take (t.length - 4) ++ four (num4 a b c d) := by rw [four_num4, ← hd, List.take_append_drop]
    rw [ht, add_append, add_four] at e
    have e2 := steps_inj e
    have e3 : num4 a b c d = sum (t.take (t.length - 4)) := by
      unfold sum
      have := congrArg (fun z => add ones (List.take (t.length - 4) t) ^^^ z) e2
      simp only [← BitVec.xor_assoc, BitVec.xor_self, BitVec.zero_xor] at this
      rw [this, ← BitVec.xor_allOnes]
      rfl
    unfold sealed
    rw [← e3]
    exact ht.symm

/-- One bit turned. -/
def turn : List UInt8 → Nat → List UInt8
  | [], _ => []
  | c :: l, p => if p < 8 then (c ^^^ UInt8.ofNat (2 ^ p)) :: l else c :: turn l (p - 8)
theorem turn_length (l : List UInt8) (p : Nat) : (turn l p).length = l.length := by
  induction l generalizing p with
  | nil => rfl
  | cons c l ih =>
    unfold turn
    split
    · rfl
    · simp [ih]
theorem one_bit (p : Nat) (hp : p < 32) (k : Nat) (hk : p ≤ k) : steps k (1#32 <<< p) = steps (k - p) 1#32 := by
  have h := steps_shift p 1#32 (by omega) (fun i hi => by
    rw [BitVec.getLsbD_one]
    simp
    omega)
  rw [show k = p + (k - p) from by omega, steps_add, h]
  congr 1
  omega
theorem add_turn (r : BitVec 32) (l : List UInt8) (p : Nat) (hp : p < 8 * l.length) : add r (turn l p) = add r l ^^^ steps (8 * l.length - p) 1#32 := by
  induction l generalizing r p with
  | nil => simp at hp
  | cons c l ih =>
    unfold turn
    rcases Nat.lt_or_ge p 8 with h8 | h8
    · rw [if_pos h8]
      simp only [add]
      have h : byte r (c ^^^ UInt8.ofNat (2 ^ p)) = byte r c ^^^ steps (8 - p) 1#32 := by
        have h1 := byte_xor r 0#32 c (UInt8.ofNat (2 ^ p))
        rw [BitVec.xor_zero] at h1
        rw [h1]
        congr 1
        unfold byte
        rw [BitVec.zero_xor, ← one_bit p (by omega) 8 (by omega)]
        congr 1
        have hlt : 2 ^ p < 256 := by
          have : 2 ^ p < 2 ^ 8 := Nat.pow_lt_pow_right (by omega) h8
          simpa using this
        apply BitVec.eq_of_toNat_eq
        rw [BitVec.toNat_ofNat, UInt8.toNat_ofNat', BitVec.toNat_shiftLeft, Nat.shiftLeft_eq]
        simp only [BitVec.toNat_ofNat, Nat.reducePow, Nat.reduceMod, Nat.one_mul]
        generalize 2 ^ p = z at *
        omega
      rw [h, add_reg, ← steps_add]
      congr 2
      rw [List.length_cons]
      omega
    · rw [if_neg (by omega)]
      simp only [add]
      rw [ih _ (p - 8) (by rw [List.length_cons] at hp; omega)]
      congr 2
      rw [List.length_cons]
      omega

end Crc
end Go.Proofs.YthepokgkfaocmaaGreatDoor

/-
  The plain law of the sums, behind: one, two or three turned bits, and a burst of 32, leave no sealed text. No program in sight.
-/
namespace Go.Proofs.YthepokgkfaocmaaGreatDoor
namespace Crc

/-- The step, on natural numbers, for the kernel's run. -/
def stepN (x : Nat) : Nat := Nat.xor (x / 2) (if x % 2 = 1 then 2197175160 else 0)
theorem stepN_eq (x : BitVec 32) : stepN x.toNat = (step x).toNat := by
  rw [step_eq, BitVec.toNat_xor, BitVec.toNat_ushiftRight, Nat.shiftRight_eq_div_pow]
  unfold stepN
  have h0 : x.getLsbD 0 = decide (x.toNat % 2 = 1) := by simp [BitVec.getLsbD]
  rw [h0]
  by_cases h : x.toNat % 2 = 1
  · simp only [h, decide_true, if_true]
    rfl
  · simp only [h, decide_false, if_false, Bool.false_eq_true]
    rfl
/-- The register behind n steps, 0 if it has been 1 (or 0) at one of them. -/
def run : Nat → Nat → Nat
  | 0, x => x
  | n + 1, x => match stepN x with
    | 0 => 0
    | 1 => 0
    | y + 2 => run n (y + 2)
def runs : Nat → Nat → Bool
  | 0, _ => true
  | k + 1, x => match run 256 x with
    | 0 => false
    | y + 1 => runs k (y + 1)
theorem runs_ok : runs 128 1 = true := by decide +kernel
theorem run_spec (n : Nat) (x : BitVec 32) (y : Nat) (h : run n x.toNat = y + 1) : (steps n x).toNat = y + 1 ∧ ∀ d, 1 ≤ d → d ≤ n → steps d x ≠ 1#32 := by
  induction n generalizing x with
  | zero => exact ⟨h, fun d h1 h2 => by omega⟩
  | succ n ih =>
    have e := stepN_eq x
    unfold run at h
    split at h
    · simp at h
    · simp at h
    · rename_i z hz
      rw [hz] at e
      rw [show z + 2 = z.succ.succ from rfl, e] at h
      obtain ⟨h1, h2⟩ := ih (step x) h
      refine ⟨h1, fun d hd1 hd2 => ?_⟩
      rcases d with _ | d
      · omega
      · rcases Nat.eq_zero_or_pos d with h0 | h0
        · subst h0
          intro he
          have := congrArg BitVec.toNat he
          simp only [steps] at this
          rw [← e] at this
          simp at this
        · exact h2 d h0 (by omega)
theorem runs_spec (k : Nat) (x : BitVec 32) (h : runs k x.toNat = true) : ∀ d, 1 ≤ d → d ≤ 256 * k → steps d x ≠ 1#32 := by
  induction k generalizing x with
  | zero => intro d h1 h2; omega
  | succ k ih =>
    intro d h1 h2
    unfold runs at h
    split at h
    · simp at h
    · rename_i y hy
      obtain ⟨h3, h4⟩ := run_spec 256 x y hy
      rcases Nat.lt_or_ge 256 d with h5 | h5
      · rw [← h3] at h
        have := ih (steps 256 x) h (d - 256) (by omega) (by omega)
        rwa [← steps_add, show 256 + (d - 256) = d from by omega] at this
      · exact h4 d h1 h5
theorem order (d : Nat) (h1 : 1 ≤ d) (h2 : d ≤ 32768) : steps d 1#32 ≠ 1#32 := runs_spec 128 1#32 runs_ok d h1 (by omega)

theorem one_turn (a : Nat) : steps a 1#32 ≠ 0#32 := fun h => by
  have := steps_null h
  exact absurd this (by decide)
theorem two_turns (a b : Nat) (hab : a ≠ b) (ha : a ≤ 32768) (hb : b ≤ 32768) : steps a 1#32 ^^^ steps b 1#32 ≠ 0#32 := fun h => by
  have e := xor_eq_zero h
  rcases Nat.lt_or_ge a b with h1 | h1
  · rw [show b = (b - a) + a from by omega, steps_add] at e
    exact order (b - a) (by omega) (by omega) (steps_inj e).symm
  · rw [show a = (a - b) + b from by omega, steps_add] at e
    exact order (a - b) (by omega) (by omega) (steps_inj e)

/-- Evenness of the register: a step keeps it. -/
def parN : Nat → BitVec 32 → Bool
  | 0, _ => false
  | k + 1, x => x.getLsbD k ^^ parN k x
def par (x : BitVec 32) : Bool := parN 32 x
theorem xor_swap (a b c d : Bool) : ((a ^^ b) ^^ (c ^^ d)) = ((a ^^ c) ^^ (b ^^ d)) := by cases a <;> cases b <;> cases c <;> cases d <;> rfl
theorem parN_xor (k : Nat) (a b : BitVec 32) : parN k (a ^^^ b) = (parN k a ^^ parN k b) := by
  induction k with
  | zero => rfl
  | succ k ih => simp only [parN, BitVec.getLsbD_xor, ih, xor_swap]
theorem par_xor (a b : BitVec 32) : par (a ^^^ b) = (par a ^^ par b) := parN_xor 32 a b
theorem parN_shift (k : Nat) (n : BitVec 32) : parN k (n >>> 1) = (parN (k + 1) n ^^ n.getLsbD 0) := by
  induction k with
  | zero => simp [parN]
  | succ k ih =>
    rw [parN, ih, BitVec.getLsbD_ushiftRight, Nat.add_comm 1 k, ← Bool.xor_assoc]
    rfl
theorem par_step (n : BitVec 32) : par (step n) = par n := by
  rw [step_eq, par_xor]
  have h : par (n >>> 1) = (par n ^^ n.getLsbD 0) := by
    unfold par
    rw [parN_shift, show parN (32 + 1) n = (n.getLsbD 32 ^^ parN 32 n) from rfl, BitVec.getLsbD_of_ge n 32 (by omega), Bool.false_xor]
  rw [h]
  cases n.getLsbD 0
  · simp only [Bool.xor_false, Bool.false_eq_true, if_false]
    rw [show par 0#32 = false from by decide, Bool.xor_false]
  · simp only [if_true]
    rw [show par poly = true from by decide, Bool.xor_assoc]
    simp
theorem par_steps (k : Nat) (n : BitVec 32) : par (steps k n) = par n := by
  induction k generalizing n with
  | zero => rfl
  | succ k ih => exact (ih (step n)).trans (par_step n)
theorem three_turns (a b c : Nat) : steps a 1#32 ^^^ steps b 1#32 ^^^ steps c 1#32 ≠ 0#32 := fun h => by
  have := congrArg par h
  rw [par_xor, par_xor, par_steps, par_steps, par_steps] at this
  exact absurd this (by decide)
end Crc
end Go.Proofs.YthepokgkfaocmaaGreatDoor

/-
  The plain law of the sums, behind: bits that are turned within 32 in a row; up to three bits anywhere. No program in sight.
-/
namespace Go.Proofs.YthepokgkfaocmaaGreatDoor
namespace Crc

/-- The bits of x from place k on, as far as they lie within M, are turned: the first i of them. -/
def burst (l : List UInt8) (k M : Nat) (x : BitVec 32) : Nat → List UInt8
  | 0 => l
  | i + 1 => if x.getLsbD i && decide (k + i < M) then turn (burst l k M x i) (k + i) else burst l k M x i
def burstE (k M : Nat) (x : BitVec 32) : Nat → BitVec 32
  | 0 => 0#32
  | i + 1 => if x.getLsbD i && decide (k + i < M) then burstE k M x i ^^^ (1#32 <<< i) else burstE k M x i
def burstT (k M : Nat) (x : BitVec 32) : Nat → Bool
  | 0 => false
  | i + 1 => if x.getLsbD i && decide (k + i < M) then true else burstT k M x i
theorem burst_length (l : List UInt8) (k M : Nat) (x : BitVec 32) (i : Nat) : (burst l k M x i).length = l.length := by
  induction i with
  | zero => rfl
  | succ i ih =>
    unfold burst
    split
    · rw [turn_length, ih]
    · exact ih
theorem burst_add (l : List UInt8) (k : Nat) (x : BitVec 32) (i : Nat) (hi : i ≤ 32) : add ones (burst l k (8 * l.length) x i) = add ones l ^^^ steps (8 * l.length - k) (burstE k (8 * l.length) x i) := by
  induction i with
  | zero => simp [burst, burstE, steps_zero]
  | succ i ih =>
    unfold burst burstE
    by_cases h : (x.getLsbD i && decide (k + i < 8 * l.length)) = true
    · rw [if_pos h, if_pos h]
      have hlt : k + i < 8 * l.length := by
        rw [Bool.and_eq_true, decide_eq_true_eq] at h
        exact h.2
      rw [add_turn _ _ _ (by rw [burst_length]; exact hlt), ih (by omega), burst_length, steps_xor, one_bit i (by omega) _ (by omega), BitVec.xor_assoc]
      congr 3
      omega
    · rw [if_neg h, if_neg h]
      exact ih (by omega)
theorem burstE_get (k M : Nat) (x : BitVec 32) (i j : Nat) (hj : j < 32) : (burstE k M x i).getLsbD j = (decide (j < i) && (x.getLsbD j && decide (k + j < M))) := by
  induction i with
  | zero => simp [burstE]
  | succ i ih =>
    unfold burstE
    by_cases h : (x.getLsbD i && decide (k + i < M)) = true
    · rw [if_pos h, BitVec.getLsbD_xor, ih, BitVec.getLsbD_shiftLeft, BitVec.getLsbD_one]
      rcases Nat.lt_trichotomy j i with h1 | h1 | h1
      · have h2 : ¬ (j - i = 0 ∧ ¬ j < i) := by omega
        simp [h1, show j < i + 1 by omega]
      · subst h1
        rw [h]
        simp [hj]
      · have h2 : ¬ j < i := by omega
        have h3 : ¬ j < i + 1 := by omega
        have h4 : ¬ j - i = 0 := by omega
        simp [h2, h3, h4]
    · rw [if_neg h, ih]
      by_cases h1 : j = i
      · subst h1
        have h2 : ¬ j < j := by omega
        have h3 : (x.getLsbD j && decide (k + j < M)) = false := by simpa using h
        rw [h3]
        simp
      · have : (j < i) ↔ (j < i + 1) := by omega
        simp [this]
theorem burstT_false (k M : Nat) (x : BitVec 32) (i : Nat) (h : burstT k M x i = false) : ∀ j, j < i → (x.getLsbD j && decide (k + j < M)) = false := by
  induction i with
  | zero => intro j hj; omega
  | succ i ih =>
    unfold burstT at h
    by_cases h0 : (x.getLsbD i && decide (k + i < M)) = true
    · rw [if_pos h0] at h
      cases h
    · rw [if_neg h0] at h
      intro j hj
      rcases Nat.lt_or_ge j i with h1 | h1
      · exact ih h j h1
      · obtain rfl : j = i := by omega
        simpa using h0
theorem burstT_true (k M : Nat) (x : BitVec 32) (i : Nat) (h : burstT k M x i = true) : ∃ j, j < i ∧ (x.getLsbD j && decide (k + j < M)) = true := by
  induction i with
  | zero => cases h
  | succ i ih =>
    unfold burstT at h
    by_cases h0 : (x.getLsbD i && decide (k + i < M)) = true
    · exact ⟨i, by omega, h0⟩
    · rw [if_neg h0] at h
      obtain ⟨j, h1, h2⟩ := ih h
      exact ⟨j, by omega, h2⟩
/-- A burst in a sealed text is found just if it turned a bit. -/
theorem burst_good (l : List UInt8) (k : Nat) (x : BitVec 32) : (sealed ((burst (sealed l) k (8 * (sealed l).length) x 32).take l.length) == burst (sealed l) k (8 * (sealed l).length) x 32) = !burstT k (8 * (sealed l).length) x 32 := by
  have hlen : (burst (sealed l) k (8 * (sealed l).length) x 32).length = l.length + 4 := by rw [burst_length, sealed_length]
  have hg := good_iff (burst (sealed l) k (8 * (sealed l).length) x 32) (by omega)
  rw [show (burst (sealed l) k (8 * (sealed l).length) x 32).length - 4 = l.length from by omega] at hg
  rw [burst_add _ _ _ _ (Nat.le_refl _), add_sealed] at hg
  have hz : rest ^^^ steps (8 * (sealed l).length - k) (burstE k (8 * (sealed l).length) x 32) = rest ↔ burstE k (8 * (sealed l).length) x 32 = 0#32 := by
    constructor
    · intro h
      have := congrArg (rest ^^^ ·) h
      simp only [← BitVec.xor_assoc, BitVec.xor_self, BitVec.zero_xor] at this
      exact steps_null this
    · intro h
      rw [h, steps_zero, BitVec.xor_zero]
  rw [hz] at hg
  cases ht : burstT k (8 * (sealed l).length) x 32
  · rw [Bool.not_false, beq_iff_eq, hg]
    apply BitVec.eq_of_getLsbD_eq
    intro j hj
    rw [burstE_get _ _ _ _ _ hj, burstT_false _ _ _ _ ht j hj]
    simp
  · rw [Bool.not_true, beq_eq_false_iff_ne, Ne, hg]
    intro h
    obtain ⟨j, hj, h2⟩ := burstT_true _ _ _ _ ht
    have := burstE_get k (8 * (sealed l).length) x 32 j hj
    rw [h, h2] at this
    simp [hj] at this

/-- The bits at the places are turned, one by one. -/
def turnAll (l : List UInt8) : List Nat → List UInt8
  | [] => l
  | p :: ps => turnAll (turn l p) ps
theorem turnAll_append (l : List UInt8) (a b : List Nat) : turnAll l (a ++ b) = turnAll (turnAll l a) b := by
  induction a generalizing l with
  | nil => rfl
  | cons p ps ih => exact ih _
theorem turnAll_length (l : List UInt8) (ps : List Nat) : (turnAll l ps).length = l.length := by
  induction ps generalizing l with
  | nil => rfl
  | cons p ps ih => rw [turnAll, ih, turn_length]
def sumE (M : Nat) : List Nat → BitVec 32
  | [] => 0#32
  | p :: ps => steps (M - p) 1#32 ^^^ sumE M ps
theorem turnAll_add (l : List UInt8) (ps : List Nat) (h : ∀ p ∈ ps, p < 8 * l.length) : add ones (turnAll l ps) = add ones l ^^^ sumE (8 * l.length) ps := by
  induction ps generalizing l with
  | nil => simp [turnAll, sumE]
  | cons p ps ih =>
    rw [turnAll, ih _ (by rw [turn_length]; exact fun q hq => h q (List.mem_cons_of_mem _ hq)), turn_length, add_turn _ _ _ (h p List.mem_cons_self), sumE, BitVec.xor_assoc]
theorem turn_cons (c : UInt8) (l : List UInt8) (p : Nat) : turn (c :: l) p = if p < 8 then (c ^^^ UInt8.ofNat (2 ^ p)) :: l else c :: turn l (p - 8) := rfl
theorem turn_twice (l : List UInt8) (p : Nat) : turn (turn l p) p = l := by
  induction l generalizing p with
  | nil => rfl
  | cons c l ih =>
    rw [turn_cons]
    by_cases h : p < 8
    · rw [if_pos h, turn_cons, if_pos h]
      congr 1
      rw [UInt8.xor_assoc, UInt8.xor_self, UInt8.xor_zero]
    · rw [if_neg h, turn_cons, if_neg h, ih]
theorem turn_comm (l : List UInt8) (p q : Nat) : turn (turn l p) q = turn (turn l q) p := by
  induction l generalizing p q with
  | nil => rfl
  | cons c l ih =>
    simp only [turn_cons]
    by_cases h : p < 8 <;> by_cases k : q < 8 <;> simp only [h, k, if_true, if_false, turn_cons]
    · rw [UInt8.xor_assoc, UInt8.xor_assoc, UInt8.xor_comm (UInt8.ofNat (2 ^ p))]
    · rw [ih]
/-- Up to three bits that are turned are found, if any is turned in the end. -/
theorem turns_good (l : List UInt8) (ps : List Nat) (h : ∀ p ∈ ps, p < 8 * (sealed l).length) (h3 : ps.length ≤ 3) (hb : 8 * (sealed l).length ≤ 32768) (hne : turnAll (sealed l) ps ≠ sealed l) :
    sealed ((turnAll (sealed l) ps).take l.length) ≠ turnAll (sealed l) ps := by
  have hlen : (turnAll (sealed l) ps).length = l.length + 4 := by rw [turnAll_length, sealed_length]
  have hg := good_iff (turnAll (sealed l) ps) (by omega)
  rw [show (turnAll (sealed l) ps).length - 4 = l.length from by omega] at hg
  rw [Ne, hg, turnAll_add _ _ h, add_sealed]
  intro e
  have e2 := congrArg (rest ^^^ ·) e
  simp only [← BitVec.xor_assoc, BitVec.xor_self, BitVec.zero_xor] at e2
  match ps, h3 with
  | [], _ => exact hne rfl
  | [p], _ =>
    simp only [sumE, BitVec.xor_zero] at e2
    exact one_turn _ e2
  | [p, q], _ =>
    have hp := h p (by simp)
    have hq := h q (by simp)
    by_cases hpq : p = q
    · subst hpq
      exact hne (by rw [turnAll, turnAll, turnAll, turn_twice])
    · simp only [sumE, BitVec.xor_zero] at e2
      exact two_turns _ _ (by omega) (by omega) (by omega) e2
  | [p, q, r], _ =>
    simp only [sumE, BitVec.xor_zero, ← BitVec.xor_assoc] at e2
    exact three_turns _ _ _ e2
end Crc
end Go.Proofs.YthepokgkfaocmaaGreatDoor
