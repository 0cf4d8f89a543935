/- Texts PlainMan, ManB in one. No conditions. -/
import Derived.Test.YthepokgkfaocmaaGreatDoorBunK
import Derived.Test.YthepokgkfaocmaaGreatDoorBunF
import Derived.Test.YthepokgkfaocmaaGreatDoorBunE
import Derived.Test.YthepokgkfaocmaaGreatDoorBunH
import Derived.Test.YthepokgkfaocmaaGreatDoorBunI

/-
  A manifest of bare Views over a disk, as plain data: rewrite, Save, Open.
-/
namespace Go.Proofs.YthepokgkfaocmaaGreatDoor
open Go

namespace Sd
variable {d : Sd}
theorem create_load (d : Sd) (s : List UInt8) : (d.create s).1.load ≤ d.load + 2 := by
  have h := call_load d [s]
  obtain ⟨e1, e2, e3, e4, _⟩ := call_same d [s]
  unfold create
  dsimp only
  split
  · omega
  · split
    · exact Nat.le_trans (Nat.le_of_eq h) (Nat.le_add_right _ _)
    · split
      · exact Nat.le_trans (Nat.le_of_eq h) (Nat.le_add_right _ _)
      · simp only [load, List.length_append, List.length_singleton]
        omega
theorem append_load (d : Sd) (s b : List UInt8) : (d.append s b).1.load = d.load := by
  have h := call_load d [s]
  obtain ⟨e1, e2, e3, e4, _⟩ := call_same d [s]
  unfold append
  dsimp only
  split
  · exact h
  · split
    · exact h
    · split
      · exact h
      · split
        · exact h
        · simp [load, e4]
theorem sync_load (d : Sd) (s : List UInt8) : (d.sync s).1.load = d.load := by
  have h := call_load d [s]
  obtain ⟨e1, e2, e3, e4, _⟩ := call_same d [s]
  unfold sync
  dsimp only
  split
  · exact h
  · split
    · exact h
    · simp [load, e4]
theorem rename_load (d : Sd) (a b : List UInt8) : (d.rename a b).1.load ≤ d.load + 1 := by
  have h := call_load d [a, b]
  obtain ⟨e1, e2, e3, e4, _⟩ := call_same d [a, b]
  unfold rename
  dsimp only
  split
  · omega
  · split
    · exact Nat.le_trans (Nat.le_of_eq h) (Nat.le_add_right _ _)
    · split
      · exact Nat.le_trans (Nat.le_of_eq h) (Nat.le_add_right _ _)
      · simp only [load, List.length_append, List.length_singleton, e3]
        omega
theorem remove_load (d : Sd) (s : List UInt8) : (d.remove s).1.load ≤ d.load + 1 := by
  have h := call_load d [s]
  obtain ⟨e1, e2, e3, e4, _⟩ := call_same d [s]
  unfold remove
  dsimp only
  split
  · omega
  · split
    · exact Nat.le_trans (Nat.le_of_eq h) (Nat.le_add_right _ _)
    · simp only [load, List.length_append, List.length_singleton, e3]
      omega
theorem syncDir_load (d : Sd) : (d.syncDir).1.load ≤ d.load := by
  have h := call_load d []
  obtain ⟨e1, e2, e3, e4, _⟩ := call_same d []
  unfold syncDir
  dsimp only
  split
  · omega
  · simp [load, e3]
/-- write: Create, Append, Sync. -/
def write (d : Sd) (s b : List UInt8) : Sd × Nat :=
  if (d.create s).2 ≠ 0 then d.create s
  else if ((d.create s).1.append s b).2 ≠ 0 then (d.create s).1.append s b
  else ((d.create s).1.append s b).1.sync s
theorem Wf.write {d : Sd} (h : d.Wf) (s b : List UInt8) : (d.write s b).1.Wf := by
  unfold Sd.write
  split
  · exact h.create s
  · split
    · exact (h.create s).append s b
    · exact ((h.create s).append s b).sync s
theorem write_load (d : Sd) (s b : List UInt8) : (d.write s b).1.load ≤ d.load + 2 := by
  have h1 := create_load d s
  have h2 := append_load (d.create s).1 s b
  have h3 := sync_load ((d.create s).1.append s b).1 s
  unfold write
  split
  · omega
  · split
    · omega
    · omega
end Sd

/-- A manifest. -/
structure Ms where
  name : List UInt8
  v : Bv
  count : Nat
  broken : Bool
namespace Mn
/-- The greatest number of names of a kind. -/
def greatest (l : List (List UInt8)) (kind : List UInt8) : Int := l.foldl (fun m s => max m ((number s kind).getD 0)) 0
theorem greatest_take {l : List (List UInt8)} {k : Nat} (h : k < l.length) (kind : List UInt8) : greatest (l.take (k + 1)) kind = max (greatest (l.take k) kind) ((number l[k] kind).getD 0) := by
  unfold greatest
  rw [List.take_succ_eq_append_getElem h, List.foldl_append]
  rfl
theorem number_fits {s kind : List UInt8} {v : Int} (h : number s kind = some v) (hs : s ≠ []) : 1 ≤ v ∧ v ≤ 1073741824 := by
  have h1 := number_some h
  by_cases hf : (fits v && isKind kind) = true
  · simp [fits] at hf; omega
  · rw [name, if_neg hf] at h1; exact absurd h1.symm hs
end Mn
namespace Mw
open Mn
def kCur : List UInt8 := [99, 117, 114, 114, 101, 110, 116]
def kTemp : List UInt8 := [99, 117, 114, 114, 101, 110, 116, 46, 116, 109, 112]
def recB (v : Bv) : List UInt8 := Fr.put 6 v.bytes
def headB (n : Int) : List UInt8 := Fr.put 8 (Pn.put n.toNat)
/-- Each other man file is removed. -/
def sweep (nm : List UInt8) : List (List UInt8) → Sd → Sd
  | [], d => d
  | o :: r, d => sweep nm r (if (number o kMan).isSome && !(o == nm) then (d.remove o).1 else d)
def fin (d : Sd) (M : Ms) (nm : List UInt8) : Sd × Ms × Nat :=
  if (d.syncDir).2 ≠ 0 then ((d.syncDir).1, { M with name := nm, count := 1, broken := true }, (d.syncDir).2)
  else (sweep nm (d.syncDir).1.list (d.syncDir).1, { M with name := nm, count := 1 }, 0)
def ren (d : Sd) (M : Ms) (nm : List UInt8) : Sd × Ms × Nat :=
  if (d.rename kTemp kCur).2 ≠ 0 then ((d.rename kTemp kCur).1, M, (d.rename kTemp kCur).2) else fin (d.rename kTemp kCur).1 M nm
def sd1 (d : Sd) (M : Ms) (nm : List UInt8) : Sd × Ms × Nat :=
  if (d.syncDir).2 ≠ 0 then ((d.syncDir).1, M, (d.syncDir).2) else ren (d.syncDir).1 M nm
def hd (d : Sd) (M : Ms) (nm : List UInt8) : Sd × Ms × Nat :=
  if (d.write kTemp (headB ((number nm kMan).getD 0))).2 ≠ 0 then ((d.write kTemp (headB ((number nm kMan).getD 0))).1, M, (d.write kTemp (headB ((number nm kMan).getD 0))).2)
  else sd1 (d.write kTemp (headB ((number nm kMan).getD 0))).1 M nm
def tmp (d : Sd) (M : Ms) (nm : List UInt8) : Sd × Ms × Nat :=
  if (d.read kTemp).2 = 0 then
    if (d.remove kTemp).2 ≠ 0 then ((d.remove kTemp).1, M, (d.remove kTemp).2) else hd (d.remove kTemp).1 M nm
  else hd d M nm
/-- The View is written into a file, and current leads to it. -/
def rewrite (d : Sd) (M : Ms) (nm : List UInt8) : Sd × Ms × Nat :=
  if (d.write nm (recB M.v)).2 ≠ 0 then ((d.write nm (recB M.v)).1, M, (d.write nm (recB M.v)).2)
  else tmp (d.write nm (recB M.v)).1 M nm
/-- A change is saved. -/
def save (d : Sd) (M : Ms) (e : Bv) : Sd × Ms × Nat :=
  if M.broken = true then (d, M, 14)
  else if (d.append M.name (recB e)).2 ≠ 0 then ((d.append M.name (recB e)).1, M, (d.append M.name (recB e)).2)
  else if ((d.append M.name (recB e)).1.sync M.name).2 ≠ 0 then (((d.append M.name (recB e)).1.sync M.name).1, { M with count := M.count + 1, v := M.v.app e, broken := true }, ((d.append M.name (recB e)).1.sync M.name).2)
  else (((d.append M.name (recB e)).1.sync M.name).1, { M with count := M.count + 1, v := M.v.app e }, 0)
/-- A manifest is written anew. -/
def rewriteM (d : Sd) (M : Ms) : Sd × Ms × Nat :=
  if M.broken = true then (d, M, 14)
  else if 1073741824 < greatest d.list kMan + 1 then (d, M, 65)
  else rewrite d M (name kMan (greatest d.list kMan + 1))
end Mw
end Go.Proofs.YthepokgkfaocmaaGreatDoor

/-
  A disk with what its users rest on; the walks of man.Greatest, man.write.
-/
namespace Go.Proofs.YthepokgkfaocmaaGreatDoor
open Go Go.RowKit Go.Shelf

/-- A disk, strconv's variables, and that the disk lies behind them. -/
structure Dm (w : World) (X : Dw) (S : Sd) : Prop where
  dk : DK w X S
  wf : S.Wf
  env : Env w
  base : ∀ g ∈ X.foot, NG ≤ g
theorem Dm.below {w w' : World} {X : Dw} {S : Sd} (h : Dm w X S) (hb : Below w.heap.size w w') : Dm w' X S := ⟨h.dk.below hb, h.wf, h.env.below hb, h.base⟩
theorem Dm.chg {w w' : World} {X : Dw} {S : Sd} {G : List Nat} (h : Dm w X S) (c : Chg G w w') (hG : ∀ g ∈ G, g ∉ X.foot ∧ NG ≤ g) : Dm w' X S := ⟨h.dk.chg c (fun g hg => (hG g hg).1), h.wf, h.env.chg c (fun g hg => (hG g hg).2), h.base⟩
/-- What becomes of a disk, with all that it rests on. -/
def UpdM (X : Dw) (w w' : World) (S' : Sd) : Prop := ∃ X', X'.d = X.d ∧ Dm w' X' S' ∧ Chg X.foot w w' ∧ ∀ g ∈ X'.foot, g ∈ X.foot ∨ w.heap.size ≤ g
theorem Dm.upd {w w' : World} {X : Dw} {S S' : Sd} (h : Dm w X S) (hw : S'.Wf) (hu : Upd X w w' S') : UpdM X w w' S' := by
  obtain ⟨X', e, hd, hc, hf⟩ := hu
  have hb := h.env.base
  exact ⟨X', e, ⟨hd, hw, h.env.chg hc h.base, fun g hg => by
    rcases hf g hg with h1 | h1
    · exact h.base g h1
    · omega⟩, hc, hf⟩
theorem UpdM.same {w w' : World} {X : Dw} {S : Sd} (h : Dm w X S) (hb : Below w.heap.size w w') : UpdM X w w' S := ⟨X, rfl, h.below hb, Chg.of_below hb _, fun _ hg => .inl hg⟩
theorem UpdM.trans {w w1 w2 : World} {X X1 : Dw} {S2 : Sd} (e : X1.d = X.d) (c : Chg X.foot w w1) (hf : ∀ g ∈ X1.foot, g ∈ X.foot ∨ w.heap.size ≤ g) (h2 : UpdM X1 w1 w2 S2) : UpdM X w w2 S2 := by
  obtain ⟨X', e', h, c', hf'⟩ := h2
  refine ⟨X', e'.trans e, h, c.trans c' (fun g hg => hf g hg), fun g hg => ?_⟩
  rcases hf' g hg with h3 | h3
  · exact hf g h3
  · exact .inr (Nat.le_trans c.size h3)

theorem list_named {S : Sd} (hw : S.Wf) : ∀ s ∈ S.list, Sd.named s = true := by
  intro s hs
  unfold Sd.list at hs
  split at hs
  · cases hs
  · rw [List.mem_mergeSort] at hs
    obtain ⟨p, hp, rfl⟩ := List.mem_map.1 hs
    exact hw.gnames p hp
theorem named_len {s : List UInt8} (h : Sd.named s = true) : 1 ≤ s.length ∧ s.length ≤ 16 := by
  simp only [Sd.named, Bool.and_eq_true, decide_eq_true_eq] at h
  exact h.1
theorem list_len {S : Sd} (hw : S.Wf) : S.list.length ≤ 64 := by
  unfold Sd.list
  split
  · simp
  · rw [List.length_mergeSort, List.length_map]; exact hw.most
theorem Row.enc {B n : Nat} {w : World} {A : Option Addr} {ss : List (List UInt8)} (h : Row B w A n 1 (ss.map Go.Proofs.encStr)) {k : Nat} (hk : k < n) : ∃ a, ∃ hl : k < ss.length, A = some a ∧ a.block < B ∧ w.cell? (a.add k) = some (.string (str ss[k])) := by
  obtain ⟨a, v, e, hb, hv, hc⟩ := h.at1 hk
  have hl : k < ss.length := by
    have := h.len
    simp at this
    omega
  rw [List.getElem?_map, List.getElem?_eq_getElem hl] at hv
  injection hv with hv
  subst hv
  exact ⟨a, hl, e, hb, hc⟩

set_option maxRecDepth 100000 in
set_option maxHeartbeats 1000000 in
theorem greatest_any (X : Dw) (S : Sd) (k : ByteArray) (hk : k.size ≤ 1000) (w : World) (h : Dm w X S) :
    Calls Tryz.prog 57 #[.pointer (some ⟨X.d, 0, none⟩), .string k] w fun e w' => e = .returned (.int .i64 (Mn.greatest S.list k.data.toList)) ∧ Below w.heap.size w w' := by
  have hl := dlist_any X S h.wf w h.dk
  have hnm := list_named h.wf
  have hlen := list_len h.wf
  obtain ⟨L, hL⟩ : ∃ L, L = S.list := ⟨_, rfl⟩
  rw [← hL] at hl hnm hlen ⊢
  clear hL
  have HNM := Lib.hid hnm
  clear hnm
  obtain ⟨R, hR⟩ : ∃ R, R = Mn.greatest L k.data.toList := ⟨_, rfl⟩
  rw [← hR]
  have HR := Lib.hid hR
  clear hR
  go_enter Tryz.func57, Tryz.ntmps57
  go_wp2_with fail
  refine hl.mono ?_
  rintro e w1 ⟨A, c, rfl, hown, hb1⟩
  have hrow := Row.own hown
  have hcap : L.length ≤ c := by
    obtain ⟨A', c', e, h1, _⟩ := own_form hown
    injection e with _ e2 e3
    omega
  go_wp2
  go_loopw [5, 13] (fun m i wr => ∃ j : Nat, j ≤ L.length ∧ i = .int .i64 (j : Int) ∧ m = .int .i64 (Mn.greatest (L.take j) k.data.toList) ∧ Below w.heap.size w wr ∧ Below w1.heap.size w1 wr) (fun _ i _ => L.length - (intOf i).toNat)
  case atStart => exact ⟨0, Nat.zero_le _, rfl, rfl, hb1, Below.refl _ _⟩
  case round =>
    obtain ⟨j, hj, rfl, rfl, hbw, hb1w⟩ := hrel
    by_cases hlt : j < L.length
    · have hrow' := (hrow.below hb1w)
      obtain ⟨a, hl', rfl, _, hcl⟩ := hrow'.enc hlt
      have hsn := HNM.out _ (List.getElem_mem hl')
      have hsl := named_len hsn
      have HT := Lib.hid (Mn.greatest_take hl' k.data.toList)
      have hnum := number_any (str L[j]) k (by rw [str_size]; omega) hk wr (h.env.below hbw)
      rw [list_str] at hnum
      generalize L[j] = s at *
      go_wp2_with fail
      refine hnum.mono ?_
      rintro e w2 ⟨rfl, hb2⟩
      have hb3 := hbw.trans (hb2.mono hbw.size)
      have hb4 := hb1w.trans (hb2.mono hb1w.size)
      cases hns : Mn.number s k.data.toList with
      | none =>
        rw [hns] at HT
        unfold numV
        generalize hG : Mn.greatest (L.take j) k.data.toList = G at *
        clear hnum hcl hrow'
        go_wp2
        go_roundw
        case rel => exact ⟨j + 1, by omega, by go_num, by rw [HT.out]; simp, hb3, hb4⟩
        case measure => simp [intOf]; omega
      | some v =>
        rw [hns] at HT
        unfold numV
        generalize hG : Mn.greatest (L.take j) k.data.toList = G at *
        clear hnum hcl hrow'
        go_wp2
        go_roundw
        case rel => exact ⟨j + 1, by omega, by go_num, by rw [HT.out]; simp, hb3, hb4⟩
        case measure => simp [intOf]; omega
    · have e1 : L.take j = L := List.take_of_length_le (by omega)
      rw [e1, ← show R = _ from HR.out]
      go_wp2
      go_ret
      exact ⟨rfl, hbw⟩

theorem UpdM.chain {w w1 w2 : World} {X : Dw} {S1 S2 : Sd} (h1 : UpdM X w w1 S1) (h2 : ∀ X1, X1.d = X.d → Dm w1 X1 S1 → (∀ g ∈ X1.foot, g ∈ X.foot ∨ w.heap.size ≤ g) → UpdM X1 w1 w2 S2) : UpdM X w w2 S2 := by
  obtain ⟨X1, e, hd, hc, hf⟩ := h1
  exact UpdM.trans e hc hf (h2 X1 e hd hf)

set_option maxRecDepth 100000 in
set_option maxHeartbeats 1000000 in
theorem write_any (X : Dw) (S : Sd) (s : ByteArray) (hs : s.size ≤ maxLen) (A : Option Addr) (m c : Nat) (b : List UInt8) (hm : m ≤ 1099511627776) (hl : S.load ≤ 1099511627776) (w : World) (h : Dm w X S) (hr : Row w.heap.size w A m 1 (bts b)) (hA : ∀ a, A = some a → a.block ∉ X.foot) :
    Calls Tryz.prog 67 #[.pointer (some ⟨X.d, 0, none⟩), .string s, .slice A m c] w fun e w' => e = .returned (.int .i64 ((S.write s.data.toList b).2 : Int)) ∧ UpdM X w w' (S.write s.data.toList b).1 := by
  have hcr := create_any X S s hs h.wf hl w h.dk
  have hw1 := h.wf.create s.data.toList
  have hup1 := fun w1 (hu : Upd X w w1 (S.create s.data.toList).1) => h.upd hw1 hu
  have hsy : S.write s.data.toList b = if (S.create s.data.toList).2 ≠ 0 then S.create s.data.toList else if ((S.create s.data.toList).1.append s.data.toList b).2 ≠ 0 then (S.create s.data.toList).1.append s.data.toList b
    else ((S.create s.data.toList).1.append s.data.toList b).1.sync s.data.toList := rfl
  generalize S.create s.data.toList = R1 at *
  obtain ⟨S1, e1⟩ := R1
  simp only at *
  by_cases h0 : e1 = 0
  · subst h0
    rw [if_neg (by simp)] at hsy
    have hw2 := hw1.append s.data.toList b
    have hap := fun X1 w1 (h1 : DK w1 X1 S1) hr1 hA1 => append_any X1 S1 s hs A m c b hm hw1 w1 h1 hr1 hA1
    generalize S1.append s.data.toList b = R2 at *
    obtain ⟨S2, e2⟩ := R2
    simp only at *
    by_cases h1 : e2 = 0
    · subst h1
      rw [if_neg (by simp)] at hsy
      have hw3 := hw2.sync s.data.toList
      have hsn := fun X1 w1 (h1 : DK w1 X1 S2) => sync_any X1 S2 s hs hw2 w1 h1
      generalize S2.sync s.data.toList = R3 at *
      obtain ⟨S3, e3⟩ := R3
      simp only at *
      rw [hsy]
      clear hsy
      have HR := Lib.hid hr
      have HA := Lib.hid hA
      clear hr hA
      go_enter Tryz.func67, Tryz.ntmps67
      go_wp2_with fail
      refine hcr.mono ?_
      rintro e w1 ⟨rfl, hu1⟩
      obtain ⟨X1, ed1, hd1, hc1, hf1⟩ := hup1 w1 hu1
      have hr1 := Row.chg_not HR.out hc1 (Nat.le_refl _) HA.out
      have hA1 : ∀ a, A = some a → a.block ≠ X1.d := fun a ha => by rw [ed1]; exact fun e => HA.out a ha (by rw [e]; exact mem_foot.2 (.inl rfl))
      have hcall2 := hap X1 w1 hd1.dk hr1 hA1
      rw [ed1] at hcall2
      have H2 := Lib.hid hcall2
      clear hcall2 hA1 hap hup1 hu1 hr1
      go_wp2_with fail
      refine H2.out.mono ?_
      rintro e w2 ⟨rfl, hu2⟩
      obtain ⟨X2, ed2, hd2, hc2, hf2⟩ := hd1.upd hw2 hu2
      have hcall3 := hsn X2 w2 hd2.dk
      rw [ed2, ed1] at hcall3
      have H3 := Lib.hid hcall3
      clear hcall3 hsn hu2
      go_wp2_with fail
      refine H3.out.mono ?_
      rintro e w3 ⟨rfl, hu3⟩
      have hfin := UpdM.trans ed1 hc1 hf1 (UpdM.trans ed2 hc2 hf2 (hd2.upd hw3 hu3))
      clear hu3
      go_wp2
      go_ret
      exact ⟨rfl, hfin⟩
    · have hne := neq0 h1
      rw [if_pos h1] at hsy
      rw [hsy]
      clear hsy
      have HR := Lib.hid hr
      have HA := Lib.hid hA
      clear hr hA h1
      go_enter Tryz.func67, Tryz.ntmps67
      go_wp2_with fail
      refine hcr.mono ?_
      rintro e w1 ⟨rfl, hu1⟩
      obtain ⟨X1, ed1, hd1, hc1, hf1⟩ := hup1 w1 hu1
      have hr1 := Row.chg_not HR.out hc1 (Nat.le_refl _) HA.out
      have hA1 : ∀ a, A = some a → a.block ≠ X1.d := fun a ha => by rw [ed1]; exact fun e => HA.out a ha (by rw [e]; exact mem_foot.2 (.inl rfl))
      have hcall2 := hap X1 w1 hd1.dk hr1 hA1
      rw [ed1] at hcall2
      have H2 := Lib.hid hcall2
      clear hcall2 hA1 hap hup1 hu1 hr1
      go_wp2_with fail
      refine H2.out.mono ?_
      rintro e w2 ⟨rfl, hu2⟩
      have hfin := UpdM.trans ed1 hc1 hf1 (hd1.upd hw2 hu2)
      clear hu2
      go_wp2
      go_ret
      exact ⟨rfl, hfin⟩
  · have hne := neq0 h0
    rw [if_pos h0] at hsy
    rw [hsy]
    clear hsy h0
    go_enter Tryz.func67, Tryz.ntmps67
    go_wp2_with fail
    refine hcr.mono ?_
    rintro e w1 ⟨rfl, hu1⟩
    have hfin := hup1 w1 hu1
    clear hu1 hup1
    go_wp2
    go_ret
    exact ⟨rfl, hfin⟩
end Go.Proofs.YthepokgkfaocmaaGreatDoor
