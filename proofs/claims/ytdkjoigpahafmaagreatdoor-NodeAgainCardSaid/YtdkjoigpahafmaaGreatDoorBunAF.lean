/- Texts PlainView, EditG, ItemB, ItemC, StateA, StateB, EditH in one. No conditions. -/
import Derived.Test.YtdkjoigpahafmaaGreatDoorBunAC
import Derived.Test.YtdkjoigpahafmaaGreatDoorBunAD
import Derived.Test.YtdkjoigpahafmaaGreatDoorBunAE
import Derived.Deep.RegionHeld3
import Derived.IntWalk
import Derived.Test.YtdkjoigpahafmaaGreatDoorBunAA

set_option linter.unusedSimpArgs false
set_option linter.unusedVariables false
set_option maxRecDepth 100000
set_option maxHeartbeats 16000000
namespace Go.Proofs.YtdkjoigpahafmaaGreatDoor
section
namespace Pn
end Pn
abbrev Rd := List UInt8 × Bool
namespace Rd
def take (most : Nat) (r : Rd) : Nat × Rd :=
 if r.2 = true ∧ (Pn.take r.1).2.2 = 0 ∧ (Pn.take r.1).1 ≤ most then ((Pn.take r.1).1, (r.1.drop (Pn.take r.1).2.1, true)) else (0, (r.1, false))
def files (r : Rd) : Nat → List (Int × Int) × Rd
 | 0 => ([], r)
 | k + 1 => ((files r k).1 ++ [(((take 3 (files r k).2).1 : Int), ((take 1073741824 (take 3 (files r k).2).2).1 : Int))], (take 1073741824 (take 3 (files r k).2).2).2)
end Rd
def Ed.zero : Ed := ⟨[], [], 0, 0, 0, 0, 0⟩
def Rd.tail (drop : List Int) (fs : List (Int × Int)) (r0 : Rd) : Ed × Rd :=
 (⟨drop, fs, ((Rd.take 1073741824 r0).1 : Int), (Rd.take 281474976710656 (Rd.take 1073741824 r0).2).1, (Rd.take 281474976710656 (Rd.take 281474976710656 (Rd.take 1073741824 r0).2).2).1,
  (Rd.take 281474976710656 (Rd.take 281474976710656 (Rd.take 281474976710656 (Rd.take 1073741824 r0).2).2).2).1,
  (Rd.take 281474976710656 (Rd.take 281474976710656 (Rd.take 281474976710656 (Rd.take 281474976710656 (Rd.take 1073741824 r0).2).2).2).2).1⟩,
  (Rd.take 281474976710656 (Rd.take 281474976710656 (Rd.take 281474976710656 (Rd.take 281474976710656 (Rd.take 1073741824 r0).2).2).2).2).2)
def Ed.scan (b : List UInt8) : Ed × Rd :=
 Rd.tail ((Pn.unlist b 40).1.map fun n => ((min n 1073741825 : Nat) : Int))
  (Rd.files (Rd.take 40 (b.drop (Pn.unlist b 40).2.1, true)).2 (Rd.take 40 (b.drop (Pn.unlist b 40).2.1, true)).1).1
  (Rd.files (Rd.take 40 (b.drop (Pn.unlist b 40).2.1, true)).2 (Rd.take 40 (b.drop (Pn.unlist b 40).2.1, true)).1).2
def Ed.good (p : Ed × Rd) : Bool := p.2.2 && p.2.1.isEmpty && p.1.may
def Ed.read (b : List UInt8) : Ed × Nat :=
 if (Pn.unlist b 40).2.2 ≠ 0 then (Ed.zero, 3) else if Ed.good (Ed.scan b) = true then ((Ed.scan b).1, 0) else (Ed.zero, 3)
def Vw.step (o : Option Vw) (p : Nat × List UInt8) : Option Vw := match o with
 | none => none
 | some v => if (Ed.read p.2).2 = 0 ∧ p.1 = 6 then v.app (Ed.read p.2).1 else none
def Vw.steps (l : List (Nat × List UInt8)) : Option Vw := l.foldl Vw.step (some Vw.none_)
theorem Vw.app_ok {v v' : Vw} {e : Ed} (h : v.app e = some v') : v'.ok = true := by
 unfold Vw.app at h
 cases hd : dropAll e.drop v.files with
 | none => rw [hd] at h; cases h
 | some fs =>
  rw [hd] at h
  simp only at h
  generalize ({ log := if e.log = 0 then v.log else e.log, files := fs ++ e.add, floor := orElse e.floor v.floor, cert := orElse e.cert v.cert, at_ := orElse e.at_ v.at_, lease := orElse e.lease v.lease } : Vw) = x at h
  by_cases hx : x.ok = true
  ·rw [if_pos hx] at h
   injection h with h
   rwa [← h]
  ·rw [if_neg hx] at h
   cases h
def Ed.text (es : List Ed) : List UInt8 := Fr.all 6 (es.map Ed.bytes)
end
section
open Go Go.RowKit
def fcells (fs : List (Int × Int)) : List Value := fs.flatMap fun f => [.int .i64 f.1, .int .i64 f.2]
theorem fcells_len (fs : List (Int × Int)) : (fcells fs).length = fs.length * 2 := by
 induction fs with
 | nil => rfl
 | cons f t ih => simp only [fcells, List.flatMap_cons, List.length_append, List.length_cons] at ih ⊢; simp only [List.length_nil] at *; omega
theorem fcells_app (a b : List (Int × Int)) : fcells (a ++ b) = fcells a ++ fcells b := by simp [fcells]
theorem fcells_one (fs : List (Int × Int)) : ∀ u ∈ fcells fs, u.oneCell' = true := by
 intro u hu
 obtain ⟨f, _, h⟩ := List.mem_flatMap.1 hu
 simp at h
 rcases h with rfl | rfl <;> rfl
theorem fcells_get : ∀ (fs : List (Int × Int)) (k : Nat) (hk : k < fs.length), (fcells fs)[k * 2]? = some (.int .i64 (fs[k]).1) ∧ (fcells fs)[k * 2 + 1]? = some (.int .i64 (fs[k]).2)
 | f :: t, 0, _ => by simp [fcells]
 | f :: t, k + 1, hk => by
  have ih := fcells_get t k (by simpa using hk)
  have e : fcells (f :: t) = .int .i64 f.1 :: .int .i64 f.2 :: fcells t := by simp [fcells]
  rw [e, show (k + 1) * 2 = k * 2 + 1 + 1 by omega, show k * 2 + 1 + 1 + 1 = (k * 2 + 1) + 1 + 1 by omega]
  simpa using ih
theorem fcells_take : ∀ (fs : List (Int × Int)) (k : Nat), fcells (fs.take k) = (fcells fs).take (k * 2)
 | fs, 0 => by simp [fcells]
 | [], k + 1 => by simp [fcells]
 | f :: t, k + 1 => by
  have ih := fcells_take t k
  have e : ∀ t, fcells (f :: t) = .int .i64 f.1 :: .int .i64 f.2 :: fcells t := fun t => by simp [fcells]
  rw [List.take_succ_cons, e, e, ih, show (k + 1) * 2 = k * 2 + 1 + 1 by omega]
  simp
theorem fcells_drop (fs : List (Int × Int)) (k : Nat) : fcells (fs.drop k) = (fcells fs).drop (k * 2) := by
 have h1 := fcells_app (fs.take k) (fs.drop k)
 rw [List.take_append_drop, fcells_take] at h1
 have h2 := List.take_append_drop (k * 2) (fcells fs)
 rw [h1] at h2
 rw [← h1] at h2
 exact (List.append_cancel_left (h2.trans h1)).symm
structure FAt (B : Nat) (w : World) (a : Addr) (k : Nat) (f : Int × Int) : Prop where
 blk : a.block < B
 c0 : w.cell? (a.add (k * 2)) = some (.int .i64 f.1)
 c1 : w.cell? ⟨(a.add (k * 2)).block, (a.add (k * 2)).off + 1, none⟩ = some (.int .i64 f.2)
theorem fadd_at (a : Addr) (k : Nat) {j : Nat} (hj : 0 < j) : a.add (k + j) = ⟨(a.add k).block, (a.add k).off + j, none⟩ := by
 rw [← add_twice, Addr.add, if_neg (by omega)]
variable {B n : Nat} {w w' : World} {A : Option Addr} {fs : List (Int × Int)}
theorem Row.flen (h : Row B w A n 2 (fcells fs)) : fs.length = n := by
 have := h.len
 rw [fcells_len] at this
 omega
theorem Row.file (h : Row B w A n 2 (fcells fs)) {k : Nat} (hk : k < n) : ∃ a, ∃ hl : k < fs.length, A = some a ∧ FAt B w a k fs[k] := by
 have hl : k < fs.length := by have := h.flen; omega
 have hlen := fcells_len fs
 obtain ⟨g0, g1⟩ := fcells_get fs k hl
 obtain ⟨a, e, hb, c0⟩ := h.cell (k * 2) (by omega)
 obtain ⟨a', e', _, c1⟩ := h.cell (k * 2 + 1) (by omega)
 rw [e] at e'
 injection e' with e'
 subst e'
 rw [List.getElem?_eq_getElem (by omega)] at g0 g1
 injection g0 with g0
 injection g1 with g1
 rw [g0] at c0
 rw [g1, fadd_at a (k * 2) (by omega)] at c1
 exact ⟨a, hl, e, hb, c0, c1⟩
def icells (ns : List Int) : List Value := ns.map fun n => .int .i64 n
theorem icells_get (ns : List Int) (k : Nat) : (icells ns)[k]? = (ns[k]?).map fun n => .int .i64 n := by simp [icells]
theorem Row.ilen {ns : List Int} (h : Row B w A n 1 (icells ns)) : ns.length = n := by
 have := h.len
 simp [icells] at this
 omega
theorem Row.int_ {ns : List Int} (h : Row B w A n 1 (icells ns)) {k : Nat} (hk : k < n) : ∃ a, ∃ hl : k < ns.length, A = some a ∧ a.block < B ∧ w.cell? (a.add k) = some (.int .i64 ns[k]) := by
 obtain ⟨a, v, e, hb, hv, hc⟩ := h.at1 hk
 have hl : k < ns.length := by have := h.ilen; omega
 rw [icells_get, List.getElem?_eq_getElem hl] at hv
 injection hv with hv
 subst hv
 exact ⟨a, hl, e, hb, hc⟩
theorem isnum_gen (n : Int) (w : World) : Calls Tryz.prog 229 #[.int .i64 n] w fun e w' => e = .returned (.bool (isNum n)) ∧ w = w' := by
 obtain ⟨b, hb⟩ : ∃ b, b = isNum n := ⟨_, rfl⟩
 rw [← hb]
 unfold isNum at hb
 have HB := Lib.hid hb
 clear hb
 go_enter Tryz.func229, Tryz.ntmps229
 by_cases h1 : 1 ≤ n
 ·by_cases h2 : n ≤ 1073741824
  ·go_wp2
   go_ret
   exact ⟨by rw [HB.out]; simp [h1, h2], rfl⟩
  ·go_wp2
   go_ret
   exact ⟨by rw [HB.out]; simp [h2], rfl⟩
 ·go_wp2
  go_ret
  exact ⟨by rw [HB.out]; simp; omega, rfl⟩
theorem isfile_gen (f : Int × Int) (w : World) : Calls Tryz.prog 231 #[.agg #[.int .i64 f.1, .int .i64 f.2]] w fun e w' => e = .returned (.bool (isFile f)) ∧ Below w.heap.size w w' := by
 obtain ⟨l, n⟩ := f
 obtain ⟨b, hb⟩ : ∃ b, b = isFile (l, n) := ⟨_, rfl⟩
 rw [← hb]
 unfold isFile at hb
 simp only at hb ⊢
 cases hn : isNum n with
 | false =>
  rw [hn] at hb
  have hq := isnum_gen n
  rw [hn] at hq
  have HB := Lib.hid hb
  clear hb hn
  go_enter Tryz.func231, Tryz.ntmps231
  go_wp2_with fail
  refine (hq _).mono ?_
  rintro e w1 ⟨rfl, rfl⟩
  go_wp2
  go_ret
  exact ⟨by rw [HB.out]; rfl, (Below.refl _ _).alloc (Nat.le_refl _) _⟩
 | true =>
  rw [hn] at hb
  have hq := isnum_gen n
  rw [hn] at hq
  have HB := Lib.hid hb
  clear hb hn
  by_cases h1 : 0 ≤ l
  ·by_cases h2 : l ≤ 3
   ·go_enter Tryz.func231, Tryz.ntmps231
    go_wp2_with fail
    refine (hq _).mono ?_
    rintro e w1 ⟨rfl, rfl⟩
    go_wp2
    go_ret
    exact ⟨by rw [HB.out]; simp [h1, h2], (Below.refl _ _).alloc (Nat.le_refl _) _⟩
   ·go_enter Tryz.func231, Tryz.ntmps231
    go_wp2_with fail
    refine (hq _).mono ?_
    rintro e w1 ⟨rfl, rfl⟩
    go_wp2
    go_ret
    exact ⟨by rw [HB.out]; simp; omega, (Below.refl _ _).alloc (Nat.le_refl _) _⟩
  ·go_enter Tryz.func231, Tryz.ntmps231
   go_wp2_with fail
   refine (hq _).mono ?_
   rintro e w1 ⟨rfl, rfl⟩
   go_wp2
   go_ret
   exact ⟨by rw [HB.out]; simp; omega, (Below.refl _ _).alloc (Nat.le_refl _) _⟩
theorem okc_any (f : Int × Int) (b : Nat) (m : Int) (w : World) (hc : w.cell? ⟨b, 1, none⟩ = some (.int .i64 m)) :
  Calls Tryz.prog 233 #[.agg #[.int .i64 f.1, .int .i64 f.2], .pointer (some ⟨b, 0, none⟩)] w fun e w' => e = .returned (.bool (f.2 == m)) ∧ Below w.heap.size w w' := by
 have hc1 : ∀ o, (w.alloc o).cell? ⟨b, 1, none⟩ = some (.int .i64 m) := fun o => (World.cell?_alloc_lt w o _ (World.block_lt_of_cell? w _ hc)).trans hc
 go_enter Tryz.func233, Tryz.ntmps233
 go_wp2
 go_ret
 exact ⟨rfl, (Below.refl _ _).alloc (Nat.le_refl _) _⟩
theorem apc_any (f : Int × Int) (p : Addr) (m : Int) (w : World) (hc : w.cell? p = some (.int .i64 m)) :
  Calls Tryz.prog 238 #[.agg #[.int .i64 f.1, .int .i64 f.2], .pointer (some p)] w fun e w' => e = .returned (.bool (f.2 == m)) ∧ Below w.heap.size w w' := by
 have hc1 : ∀ o, (w.alloc o).cell? p = some (.int .i64 m) := fun o => (World.cell?_alloc_lt w o _ (World.block_lt_of_cell? w _ hc)).trans hc
 go_enter Tryz.func238, Tryz.ntmps238
 go_wp2
 go_ret
 exact ⟨rfl, (Below.refl _ _).alloc (Nat.le_refl _) _⟩
theorem may2_any (f : Int × Int) (w : World) : Calls Tryz.prog 264 #[.agg #[.int .i64 f.1, .int .i64 f.2]] w fun e w' => e = .returned (.bool (!isFile f)) ∧ Below w.heap.size w w' := by
 go_enter Tryz.func264, Tryz.ntmps264
 go_wp2_with fail
 refine (isfile_gen f _).mono ?_
 rintro e w1 ⟨rfl, hb⟩
 go_wp2
 go_ret
 exact ⟨rfl, later_ ((Below.refl _ _).alloc (Nat.le_refl _) _) hb⟩
theorem may1_any (n : Int) (w : World) : Calls Tryz.prog 263 #[.int .i64 n] w fun e w' => e = .returned (.bool (!isNum n)) ∧ w = w' := by
 go_enter Tryz.func263, Tryz.ntmps263
 go_wp2_with fail
 refine (isnum_gen n _).mono ?_
 rintro e w1 ⟨rfl, rfl⟩
 go_wp2
 go_ret
 exact ⟨rfl, rfl⟩
theorem ret_i {k : IntKind} {a b : Int} (h : a = b) : Ending.returned (.int k a) = .returned (.int k b) := by rw [h]
theorem ret_b {a b : Bool} (h : a = b) : Ending.returned (.bool a) = .returned (.bool b) := by rw [h]
def fidx {α : Type} (P : α → Bool) (l : List α) : Int := if l.any P = true then (l.findIdx P : Int) else -1
theorem fidx_none {α : Type} {P : α → Bool} {l : List α} (h : l.any P = false) : fidx P l = -1 := by unfold fidx; rw [h]; rfl
theorem any_take {α : Type} {P : α → Bool} {l : List α} {k : Nat} (h : k < l.length) : (l.take (k + 1)).any P = ((l.take k).any P || P l[k]) := by
 rw [List.take_succ_eq_append_getElem h, List.any_append]
 simp
theorem fidx_some {α : Type} {P : α → Bool} {l : List α} {k : Nat} (hl : k < l.length) (h0 : (l.take k).any P = false) (h1 : P l[k] = true) : fidx P l = (k : Int) := by
 unfold fidx
 rw [if_pos (List.any_eq_true.2 ⟨_, List.getElem_mem hl, h1⟩)]
 congr 1
 rw [List.findIdx_eq hl]
 refine ⟨h1, fun j hj => ?_⟩
 have := List.any_eq_false.1 h0 l[j] (by
  rw [List.mem_take_iff_getElem]
  exact ⟨j, by omega, rfl⟩)
 simpa using this
theorem fidx_ge {α : Type} (P : α → Bool) (l : List α) : decide (0 ≤ fidx P l) = l.any P := by
 unfold fidx
 split
 ·rename_i h; rw [h]; simp
 ·rename_i h; simp at h; simp; exact h
theorem fidx_lt {α : Type} {P : α → Bool} {l : List α} (h : l.any P = true) : ∃ i : Nat, fidx P l = (i : Int) ∧ ∃ hi : i < l.length, P l[i] = true ∧ l.findIdx P = i := by
 unfold fidx
 rw [if_pos h]
 have hl : l.findIdx P < l.length := List.findIdx_lt_length.2 (by simpa using h)
 exact ⟨_, rfl, hl, List.findIdx_getElem (w := hl), rfl⟩
theorem fidx_cap (K : Nat) (hF : ∀ args w, (callFunc K args).run Tryz.prog w = .ok (.enter K args) w) (p : Addr) (P : Int × Int → Bool) (A : Option Addr) (n c : Nat) (fs : List (Int × Int)) (w : World) (hn : n ≤ 1000000) (hr : Row w.heap.size w A n 2 (fcells fs))
  (hK : ∀ f w1, Below w.heap.size w w1 → Calls Tryz.prog K #[.agg #[.int .i64 f.1, .int .i64 f.2], .pointer (some p)] w1 fun e w' => e = .returned (.bool (P f)) ∧ Below w1.heap.size w1 w') :
  Calls Tryz.prog 237 #[.slice A n c, .func (.func K) #[] #[.pointer (some p)]] w fun e w' => e = .returned (.int .i64 (fidx P fs)) ∧ Below w.heap.size w w' := by
 have hnn := hr.flen
 have HK := Lib.hid hK
 have HF := Lib.hid hF
 clear hK hF
 go_enter Tryz.func237, Tryz.ntmps237
 go_wp2
 go_loopw [8] (fun i wr => ∃ k : Nat, k ≤ n ∧ i = .int .i64 (k : Int) ∧ Hid ((fs.take k).any P = false) ∧ Below w.heap.size w wr) (fun i _ => n - (intOf i).toNat)
 case atStart => exact ⟨0, Nat.zero_le _, rfl, Lib.hid rfl, Below.refl _ _⟩
 case round =>
  obtain ⟨k, hk, rfl, hb, hbl⟩ := hrel
  by_cases hlt : k < n
  ·obtain ⟨a, hl, rfl, hbk, c0, c1⟩ := (hr.below hbl).file hlt
   have ht := any_take (P := P) hl
   have hs := fun h1 => fidx_some (P := P) hl hb.out h1
   generalize fs[k] = f at *
   have HT := Lib.hid ht
   have HS := Lib.hid hs
   clear ht hs hl
   have hc := HK.out f wr hbl
   cases hp : P f with
   | true =>
    rw [hp] at hc
    have HP := Lib.hid hp
    clear hp
    go_wp2_with fail
    rw [HF.out, Oper.upon_enter]
    refine hc.mono ?_
    rintro e w1 ⟨rfl, hb1⟩
    go_wp2
    go_ret
    exact ⟨ret_i (HS.out HP.out).symm, later_ hbl hb1⟩
   | false =>
    rw [hp] at hc
    have HP := Lib.hid hp
    clear hp
    go_wp2_with fail
    rw [HF.out, Oper.upon_enter]
    refine hc.mono ?_
    rintro e w1 ⟨rfl, hb1⟩
    go_wp2
    go_roundw
    case rel => exact ⟨k + 1, by omega, by go_num, Lib.hid (by rw [HT.out, hb.out, HP.out]; rfl), later_ hbl hb1⟩
    case measure => simp [intOf]; omega
  ·have hall : fidx P fs = -1 := fidx_none (by
    have hb' := hb.out
    rwa [List.take_of_length_le (by omega)] at hb')
   have HA := Lib.hid hall
   clear hall
   go_wp2
   go_ret
   exact ⟨ret_i HA.out.symm, hbl⟩
end
section
open Go Go.RowKit
theorem iidx_cap (K : Nat) (hF : ∀ args w, (callFunc K args).run Tryz.prog w = .ok (.enter K args) w) (cap : Array Value) (P : It → Bool) (A : Option Addr) (n c : Nat) (l : List It) (w : World) (hn : n ≤ 1000000) (hr : Row w.heap.size w A n 5 (itc l))
  (hK : ∀ x w1, Below w.heap.size w w1 → Calls Tryz.prog K (#[x.val] ++ cap) w1 fun e w' => e = .returned (.bool (P x)) ∧ Below w1.heap.size w1 w') :
  Calls Tryz.prog 148 #[.slice A n c, .func (.func K) #[] cap] w fun e w' => e = .returned (.int .i64 (fidx P l)) ∧ Below w.heap.size w w' := by
 have hnn := hr.itlen
 have HK := Lib.hid hK
 have HF := Lib.hid hF
 clear hK hF
 go_enter Tryz.func148, Tryz.ntmps148
 go_wp2
 go_loopw [8] (fun i wr => ∃ k : Nat, k ≤ n ∧ i = .int .i64 (k : Int) ∧ Hid ((l.take k).any P = false) ∧ Below w.heap.size w wr) (fun i _ => n - (intOf i).toNat)
 case atStart => exact ⟨0, Nat.zero_le _, rfl, Lib.hid rfl, Below.refl _ _⟩
 case round =>
  obtain ⟨k, hk, rfl, hb, hbl⟩ := hrel
  by_cases hlt : k < n
  ·obtain ⟨a, hl, rfl, hbk, c0, c1, c2, c3, c4⟩ := (hr.below hbl).it hlt
   have ht := any_take (P := P) hl
   have hs := fun h1 => fidx_some (P := P) hl hb.out h1
   generalize l[k] = f at *
   have HT := Lib.hid ht
   have HS := Lib.hid hs
   clear ht hs hl
   have hc := HK.out f wr hbl
   unfold It.val at hc
   generalize hp : P f = p at hc
   have HP := Lib.hid hp
   clear hp
   go_wp2_with fail
   rw [HF.out, Oper.upon_enter]
   refine hc.mono ?_
   rintro e w1 ⟨rfl, hb1⟩
   cases p with
   | true =>
    go_wp2
    go_ret
    exact ⟨ret_i (HS.out HP.out).symm, later_ hbl hb1⟩
   | false =>
    go_wp2
    go_roundw
    case rel => exact ⟨k + 1, by omega, by go_num, Lib.hid (by rw [HT.out, hb.out, HP.out]; rfl), later_ hbl hb1⟩
    case measure => simp [intOf]; omega
  ·have hall : fidx P l = -1 := fidx_none (by
    have hb' := hb.out
    rwa [List.take_of_length_le (by omega)] at hb')
   have HA := Lib.hid hall
   clear hall
   go_wp2
   go_ret
   exact ⟨ret_i HA.out.symm, hbl⟩
theorem ihas_cap (K : Nat) (hF : ∀ args w, (callFunc K args).run Tryz.prog w = .ok (.enter K args) w) (cap : Array Value) (P : It → Bool) (A : Option Addr) (n c : Nat) (l : List It) (w : World) (hn : n ≤ 1000000) (hr : Row w.heap.size w A n 5 (itc l))
  (hK : ∀ x w1, Below w.heap.size w w1 → Calls Tryz.prog K (#[x.val] ++ cap) w1 fun e w' => e = .returned (.bool (P x)) ∧ Below w1.heap.size w1 w') :
  Calls Tryz.prog 76 #[.slice A n c, .func (.func K) #[] cap] w fun e w' => e = .returned (.bool (l.any P)) ∧ Below w.heap.size w w' := by
 have hge := fidx_ge P l
 have hq := iidx_cap K hF cap P A n c l w hn hr hK
 clear hK
 generalize fidx P l = i at *
 have HGE := Lib.hid hge
 clear hge
 go_enter Tryz.func76, Tryz.ntmps76
 go_wp2_with fail
 refine hq.mono ?_
 rintro e w1 ⟨rfl, hb⟩
 clear hq
 go_wp2
 go_ret
 exact ⟨ret_b HGE.out, hb⟩
end
section
open Go Go.RowKit
theorem any_nok (l : List It) : l.any (fun x => !x.ok) = !l.all It.ok := by
 induction l with
 | nil => rfl
 | cons a l ih => simp [ih, Bool.not_and]
theorem all1_any (a : It) (w : World) : Calls Tryz.prog 77 #[a.val] w fun e w' => e = .returned (.bool (!a.ok)) ∧ Below w.heap.size w w' := by
 have hok := fun W => iok_any a W
 unfold It.val at hok ⊢
 go_enter Tryz.func77, Tryz.ntmps77
 go_wp2_with fail
 refine (hok _).mono ?_
 rintro e w1 ⟨rfl, hb⟩
 go_wp2
 go_ret
 exact ⟨rfl, later_ ((Below.refl _ _).alloc (Nat.le_refl _) _) hb⟩
theorem map1_any (a : It) (w : World) : Calls Tryz.prog 86 #[a.val] w fun e w' => e = .returned (.bool (!a.ok)) ∧ Below w.heap.size w w' := by
 have hok := fun W => iok_any a W
 unfold It.val at hok ⊢
 go_enter Tryz.func86, Tryz.ntmps86
 go_wp2_with fail
 refine (hok _).mono ?_
 rintro e w1 ⟨rfl, hb⟩
 go_wp2
 go_ret
 exact ⟨rfl, later_ ((Below.refl _ _).alloc (Nat.le_refl _) _) hb⟩
theorem iall_any (A : Option Addr) (n c : Nat) (l : List It) (w : World) (hn : n ≤ 1000000) (hr : Row w.heap.size w A n 5 (itc l)) :
  Calls Tryz.prog 28 #[.slice A n c] w fun e w' => e = .returned (.bool (l.all It.ok)) ∧ Below w.heap.size w w' := by
 have h := ihas_cap 77 (fun _ _ => rfl) #[] (fun x => !x.ok) A n c l w hn hr (fun x w1 _ => all1_any x w1)
 rw [any_nok] at h
 go_enter Tryz.func28, Tryz.ntmps28
 go_wp2_with fail
 refine h.mono ?_
 rintro e w1 ⟨rfl, hb⟩
 clear h
 go_wp2
 go_ret
 exact ⟨ret_bo (by simp), hb⟩
end
section
open Go Go.RowKit
theorem pos_iff {l : List It} (h : Rises l) (x : It) {k : Nat} (hk : k < l.length) : It.less l[k] x = decide (k < pos l x) := by
 obtain ⟨h1, h2⟩ := split_pos h x
 rcases Nat.lt_or_ge k (pos l x) with h3 | h3
 ·have : l[k] ∈ l.take (pos l x) := List.mem_take_iff_getElem.2 ⟨k, by omega, rfl⟩
  rw [h1] at this
  simp [(List.mem_filter.1 this).2, h3]
 ·have : l[k] ∈ l.drop (pos l x) := List.mem_iff_getElem.2 ⟨k - pos l x, by simp; omega, by simp [Nat.add_sub_cancel' h3]⟩
  rw [h2] at this
  have h4 := (List.mem_filter.1 this).2
  simp only [Bool.not_eq_true'] at h4
  rw [h4]
  simp; omega
def pcmp (a b : It) : Int := if a.less b = true then -1 else 1
theorem place1_any (a b : It) (w : World) : Calls Tryz.prog 206 #[a.val, b.val] w fun e w' => e = .returned (.int .i64 (pcmp a b)) ∧ Below w.heap.size w w' := by
 have hle := fun W => iless_any a b W
 have hb0 := ((Below.refl w.heap.size w).alloc (Nat.le_refl _) (.cells #[.int .i64 a.s, .int .i64 a.k, .int .u64 (a.t : Int), .int .u64 (a.v : Int), .int .i64 a.x] 27)).alloc (by simp) (.cells #[.int .i64 b.s, .int .i64 b.k, .int .u64 (b.t : Int), .int .u64 (b.v : Int), .int .i64 b.x] 27)
 unfold pcmp
 unfold It.val at hle ⊢
 generalize a.less b = p at *
 have HL := Lib.hid hle
 clear hle
 go_enter Tryz.func206, Tryz.ntmps206
 go_wp2_with fail
 refine (HL.out _).mono ?_
 rintro e w1 ⟨rfl, hb1⟩
 have hbz := later_ hb0 hb1
 cases p
 all_goals
  go_wp2
  go_ret
  exact ⟨rfl, hbz⟩
theorem ibsearch_any (A : Option Addr) (n c : Nat) (l : List It) (x : It) (w : World) (hn : n ≤ 1000000) (hR : Rises l) (hr : Row w.heap.size w A n 5 (itc l)) :
  Calls Tryz.prog 205 #[.slice A n c, x.val, .func (.func 206) #[] #[]] w fun e w' => e = .returned (.tuple #[.int .i64 (pos l x : Int), .bool false]) ∧ Below w.heap.size w w' := by
 have hnn := hr.itlen
 have hpl := pos_le l x
 have hbV := (Below.refl w.heap.size w).alloc (Nat.le_refl _) (.cells #[.int .i64 x.s, .int .i64 x.k, .int .u64 (x.t : Int), .int .u64 (x.v : Int), .int .i64 x.x] 27)
 have hbx := BoxO.new w #[.int .i64 x.s, .int .i64 x.k, .int .u64 (x.t : Int), .int .u64 (x.v : Int), .int .i64 x.x] 27
 obtain ⟨r, hrp⟩ : ∃ r, r = pos l x := ⟨_, rfl⟩
 rw [← hrp] at hpl ⊢
 have HRP := Lib.hid hrp
 clear hrp
 unfold It.val
 go_enter Tryz.func205, Tryz.ntmps205
 go_wp2_with fail
 generalize w.alloc (.cells #[.int .i64 x.s, .int .i64 x.k, .int .u64 (x.t : Int), .int .u64 (x.v : Int), .int .i64 x.x] 27) = V at *
 obtain ⟨g, hg⟩ : ∃ g, g = w.heap.size := ⟨_, rfl⟩
 rw [← hg] at hbx ⊢
 clear hg
 go_loopw [9, 10] (fun i j wr => ∃ p q : Nat, p ≤ r ∧ r ≤ q ∧ q ≤ n ∧ i = .int .i64 (p : Int) ∧ j = .int .i64 (q : Int) ∧ Below V.heap.size V wr) (fun i j _ => (intOf j).toNat - (intOf i).toNat)
 case atStart => exact ⟨0, n, Nat.zero_le _, by omega, Nat.le_refl _, rfl, rfl, Below.refl _ _⟩
 case round =>
  obtain ⟨p, q, hp, hq, hqn, rfl, rfl, hbl⟩ := hrel
  have hbz : ∀ w', Below wr.heap.size wr w' → Below V.heap.size V w' := fun w' h => hbl.trans (h.mono hbl.size)
  by_cases hlt : p < q
  ·obtain ⟨m, hm⟩ : ∃ m, m = (p + q) / 2 := ⟨_, rfl⟩
   have hm1 : p ≤ m ∧ m < q := by omega
   have hmn : (m : Int) < (n : Int) := by omega
   have hwm : IntKind.i64.wrap (m : Int) = (m : Int) := IntWalk.i64_in _ (by omega)
   have HMM := Lib.hid (show ((p : Int) + (q : Int)) / 2 = (m : Int) by omega)
   clear hm
   obtain ⟨a, hl, rfl, hbk, hd⟩ := ((hr.below hbV).up hbV.size |>.below hbl).it (k := m) (by omega)
   have hlp := pos_iff hR x hl
   generalize l[m] = y at *
   have hcm := fun W => place1_any y x W
   unfold It.val pcmp at hcm
   rw [hlp] at hcm
   have hkc : ∀ w', Below wr.heap.size wr w' → (w'.cell? (a.add (m * 5)) = some (.int .i64 y.s) ∧ w'.cell? ⟨(a.add (m * 5)).block, (a.add (m * 5)).off + 1, none⟩ = some (.int .i64 y.k) ∧ w'.cell? ⟨(a.add (m * 5)).block, (a.add (m * 5)).off + 2, none⟩ = some (.int .u64 (y.t : Int)) ∧ w'.cell? ⟨(a.add (m * 5)).block, (a.add (m * 5)).off + 3, none⟩ = some (.int .u64 (y.v : Int)) ∧ w'.cell? ⟨(a.add (m * 5)).block, (a.add (m * 5)).off + 4, none⟩ = some (.int .i64 y.x)) ∧ w'.cell? ⟨g, 0, none⟩ = some (.int .i64 x.s) ∧ w'.cell? ⟨g, 1, none⟩ = some (.int .i64 x.k) ∧ w'.cell? ⟨g, 2, none⟩ = some (.int .u64 (x.t : Int)) ∧ w'.cell? ⟨g, 3, none⟩ = some (.int .u64 (x.v : Int)) ∧ w'.cell? ⟨g, 4, none⟩ = some (.int .i64 x.x) := fun w' hb => by
    have h1 := hd.below (B := wr.heap.size) (w' := w') (Nat.lt_of_lt_of_le hbk hbl.size) hb
    have h2 := (hbx.below hbl).below hb
    exact ⟨⟨h1.c0, h1.c1, h1.c2, h1.c3, h1.c4⟩, h2.cell 0, h2.cell 1, h2.cell 2, h2.cell 3, h2.cell 4⟩
   have KC := Lib.hid hkc
   have HL := Lib.hid hcm
   clear hkc hcm hd hlp
   rw [← HRP.out] at HL
   obtain ⟨b, hb⟩ : ∃ b, b = decide (m < r) := ⟨_, rfl⟩
   rw [← hb] at HL
   go_wp2_with fail
   rw [HMM.out]
   refine wp_region_held_drew (S := fun w' => Below wr.heap.size wr w') rfl (below_drew (Below.refl _ _)) (fun hSw => ?_)
   refine wpT (i := 0) (v := ?vrb0) ?hrb0 hSw ?krb0
   case hrb0 => (intro w hSw; (obtain ⟨⟨c0, c1, c2, c3, c4⟩, d0, d1, d2, d3, d4⟩ := KC.out w hSw); go_simp; try (with_reducible rfl))
   go_simp
   refine wpT (i := 1) (v := ?vrb1) ?hrb1 hSw ?krb1
   case hrb1 => (intro w hSw; (obtain ⟨⟨c0, c1, c2, c3, c4⟩, d0, d1, d2, d3, d4⟩ := KC.out w hSw); go_simp; try (with_reducible rfl))
   go_simp
   refine wpT (i := 2) (v := ?vrb2) ?hrb2 hSw ?krb2
   case hrb2 => (intro w hSw; (obtain ⟨⟨c0, c1, c2, c3, c4⟩, d0, d1, d2, d3, d4⟩ := KC.out w hSw); go_simp; try (with_reducible rfl))
   go_simp
   refine wpT (i := 3) (v := ?vrb3) ?hrb3 hSw ?krb3
   case hrb3 => (intro w hSw; (obtain ⟨⟨c0, c1, c2, c3, c4⟩, d0, d1, d2, d3, d4⟩ := KC.out w hSw); go_simp; try (with_reducible rfl))
   go_simp
   refine wpT (i := 4) (v := ?vrb4) ?hrb4 hSw ?krb4
   case hrb4 => (intro w hSw; (obtain ⟨⟨c0, c1, c2, c3, c4⟩, d0, d1, d2, d3, d4⟩ := KC.out w hSw); go_simp; try (with_reducible rfl))
   go_simp
   refine wpT (i := 5) (v := ?vrb5) ?hrb5 hSw ?krb5
   case hrb5 => (intro w hSw; (obtain ⟨⟨c0, c1, c2, c3, c4⟩, d0, d1, d2, d3, d4⟩ := KC.out w hSw); go_simp; try (with_reducible rfl))
   go_simp
   refine wpAnyH_ready (rs := [6]) (by kernel_rfl) (by simp) ?_
   refine AllReadyH.cons rfl (fun K hK => ?_) AllReadyH.nil
   go_simp
   with_reducible refine (HL.out _).mono ?_
   rintro e w1 ⟨rfl, hb1⟩
   go_simp
   refine hK.out _ _ (hSw.trans (hb1.mono hSw.size)) (fun hSn => ?_)
   clear hK K hSw
   have hSw := hSn
   clear hSn
   go_simp
   refine wpT (i := 7) (v := ?vrb7) ?hrb7 hSw ?krb7
   case hrb7 => (intro w hSw; (obtain ⟨⟨c0, c1, c2, c3, c4⟩, d0, d1, d2, d3, d4⟩ := KC.out w hSw); go_simp; try (with_reducible rfl))
   go_simp
   refine wpAnyH_done (by kernel_rfl) ?_ _
   have hby := hbz _ hSw
   clear hSw KC HL
   cases b with
   | true =>
    have hmr : m < r := by simpa using hb.symm
    go_wp2
    go_roundw
    case rel => exact ⟨m + 1, q, by omega, hq, hqn, by go_num, rfl, hby⟩
    case measure => simp [intOf]; omega
   | false =>
    have hmr : ¬ m < r := by simpa using hb.symm
    go_wp2
    go_roundw
    case rel => exact ⟨p, m, hp, by omega, by omega, rfl, rfl, hby⟩
    case measure => simp [intOf]; omega
  ·have hpr : p = r := by omega
   subst hpr
   have hno : ((p : Int) < (q : Int)) = False := eq_false (by omega)
   by_cases hpn : p < n
   ·have hpn2 : (p : Int) < (n : Int) := by omega
    obtain ⟨a, hl, rfl, hbk, hd⟩ := ((hr.below hbV).up hbV.size |>.below hbl).it (k := p) (by omega)
    have hlp := pos_iff hR x hl
    generalize l[p] = y at *
    have hcm := fun W => place1_any y x W
    unfold It.val pcmp at hcm
    rw [hlp] at hcm
    have hkc : ∀ w', Below wr.heap.size wr w' → (w'.cell? (a.add (p * 5)) = some (.int .i64 y.s) ∧ w'.cell? ⟨(a.add (p * 5)).block, (a.add (p * 5)).off + 1, none⟩ = some (.int .i64 y.k) ∧ w'.cell? ⟨(a.add (p * 5)).block, (a.add (p * 5)).off + 2, none⟩ = some (.int .u64 (y.t : Int)) ∧ w'.cell? ⟨(a.add (p * 5)).block, (a.add (p * 5)).off + 3, none⟩ = some (.int .u64 (y.v : Int)) ∧ w'.cell? ⟨(a.add (p * 5)).block, (a.add (p * 5)).off + 4, none⟩ = some (.int .i64 y.x)) ∧ w'.cell? ⟨g, 0, none⟩ = some (.int .i64 x.s) ∧ w'.cell? ⟨g, 1, none⟩ = some (.int .i64 x.k) ∧ w'.cell? ⟨g, 2, none⟩ = some (.int .u64 (x.t : Int)) ∧ w'.cell? ⟨g, 3, none⟩ = some (.int .u64 (x.v : Int)) ∧ w'.cell? ⟨g, 4, none⟩ = some (.int .i64 x.x) := fun w' hb => by
     have h1 := hd.below (B := wr.heap.size) (w' := w') (Nat.lt_of_lt_of_le hbk hbl.size) hb
     have h2 := (hbx.below hbl).below hb
     exact ⟨⟨h1.c0, h1.c1, h1.c2, h1.c3, h1.c4⟩, h2.cell 0, h2.cell 1, h2.cell 2, h2.cell 3, h2.cell 4⟩
    have KC := Lib.hid hkc
    have HL := Lib.hid hcm
    clear hkc hcm hd hlp
    rw [← HRP.out] at HL
    simp only [Nat.lt_irrefl, decide_false, Bool.false_eq_true, if_false] at HL
    go_wp2_with fail
    refine wp_region_held_drew (S := fun w' => Below wr.heap.size wr w') rfl (below_drew (Below.refl _ _)) (fun hSw => ?_)
    refine wpT (i := 0) (v := ?vrc0) ?hrc0 hSw ?krc0
    case hrc0 => (intro w hSw; (obtain ⟨⟨c0, c1, c2, c3, c4⟩, d0, d1, d2, d3, d4⟩ := KC.out w hSw); go_simp; try (with_reducible rfl))
    go_simp
    refine wpT (i := 1) (v := ?vrc1) ?hrc1 hSw ?krc1
    case hrc1 => (intro w hSw; (obtain ⟨⟨c0, c1, c2, c3, c4⟩, d0, d1, d2, d3, d4⟩ := KC.out w hSw); go_simp; try (with_reducible rfl))
    go_simp
    refine wpT (i := 2) (v := ?vrc2) ?hrc2 hSw ?krc2
    case hrc2 => (intro w hSw; (obtain ⟨⟨c0, c1, c2, c3, c4⟩, d0, d1, d2, d3, d4⟩ := KC.out w hSw); go_simp; try (with_reducible rfl))
    go_simp
    refine wpT (i := 3) (v := ?vrc3) ?hrc3 hSw ?krc3
    case hrc3 => (intro w hSw; (obtain ⟨⟨c0, c1, c2, c3, c4⟩, d0, d1, d2, d3, d4⟩ := KC.out w hSw); go_simp; try (with_reducible rfl))
    go_simp
    refine wpT (i := 4) (v := ?vrc4) ?hrc4 hSw ?krc4
    case hrc4 => (intro w hSw; (obtain ⟨⟨c0, c1, c2, c3, c4⟩, d0, d1, d2, d3, d4⟩ := KC.out w hSw); go_simp; try (with_reducible rfl))
    go_simp
    refine wpT (i := 5) (v := ?vrc5) ?hrc5 hSw ?krc5
    case hrc5 => (intro w hSw; (obtain ⟨⟨c0, c1, c2, c3, c4⟩, d0, d1, d2, d3, d4⟩ := KC.out w hSw); go_simp; try (with_reducible rfl))
    go_simp
    refine wpT (i := 6) (v := ?vrc6) ?hrc6 hSw ?krc6
    case hrc6 => (intro w hSw; (obtain ⟨⟨c0, c1, c2, c3, c4⟩, d0, d1, d2, d3, d4⟩ := KC.out w hSw); go_simp; try (with_reducible rfl))
    go_simp
    refine wpT (i := 7) (v := ?vrc7) ?hrc7 hSw ?krc7
    case hrc7 => (intro w hSw; (obtain ⟨⟨c0, c1, c2, c3, c4⟩, d0, d1, d2, d3, d4⟩ := KC.out w hSw); go_simp; try (with_reducible rfl))
    go_simp
    refine wpT (i := 8) (v := ?vrc8) ?hrc8 hSw ?krc8
    case hrc8 => (intro w hSw; (obtain ⟨⟨c0, c1, c2, c3, c4⟩, d0, d1, d2, d3, d4⟩ := KC.out w hSw); go_simp; try (with_reducible rfl))
    go_simp
    refine wpT (i := 9) (v := ?vrc9) ?hrc9 hSw ?krc9
    case hrc9 => (intro w hSw; (obtain ⟨⟨c0, c1, c2, c3, c4⟩, d0, d1, d2, d3, d4⟩ := KC.out w hSw); go_simp; try (with_reducible rfl))
    go_simp
    refine wpT (i := 10) (v := ?vrc10) ?hrc10 hSw ?krc10
    case hrc10 => (intro w hSw; (obtain ⟨⟨c0, c1, c2, c3, c4⟩, d0, d1, d2, d3, d4⟩ := KC.out w hSw); go_simp; try (with_reducible rfl))
    go_simp
    refine wpAnyH_ready (rs := [11]) (by kernel_rfl) (by simp) ?_
    refine AllReadyH.cons rfl (fun K hK => ?_) AllReadyH.nil
    go_simp
    with_reducible refine (HL.out _).mono ?_
    rintro e w1 ⟨rfl, hb1⟩
    go_simp
    refine hK.out _ _ (hSw.trans (hb1.mono hSw.size)) (fun hSn => ?_)
    clear hK K hSw
    have hSw := hSn
    clear hSn
    go_simp
    refine wpT (i := 12) (v := ?vrc12) ?hrc12 hSw ?krc12
    case hrc12 => (intro w hSw; (obtain ⟨⟨c0, c1, c2, c3, c4⟩, d0, d1, d2, d3, d4⟩ := KC.out w hSw); go_simp; try (with_reducible rfl))
    go_simp
    refine wpT (i := 13) (v := ?vrc13) ?hrc13 hSw ?krc13
    case hrc13 => (intro w hSw; (obtain ⟨⟨c0, c1, c2, c3, c4⟩, d0, d1, d2, d3, d4⟩ := KC.out w hSw); go_simp; try (with_reducible rfl))
    go_simp
    refine wpT (i := 14) (v := ?vrc14) ?hrc14 hSw ?krc14
    case hrc14 => (intro w hSw; (obtain ⟨⟨c0, c1, c2, c3, c4⟩, d0, d1, d2, d3, d4⟩ := KC.out w hSw); go_simp; try (with_reducible rfl))
    go_simp
    refine wpT (i := 15) (v := ?vrc15) ?hrc15 hSw ?krc15
    case hrc15 => (intro w hSw; (obtain ⟨⟨c0, c1, c2, c3, c4⟩, d0, d1, d2, d3, d4⟩ := KC.out w hSw); go_simp; try (with_reducible rfl))
    go_simp
    refine wpAnyH_done (by kernel_rfl) ?_ _
    have hby := later_ hbV (hbz _ hSw)
    clear hSw KC HL
    go_wp2
    go_ret2
    exact ⟨rfl, hby⟩
   ·have hpn2 : ((p : Int) < (n : Int)) = False := eq_false (by omega)
    go_wp2_with fail
    refine wp_region_held_drew (S := fun w' => Below wr.heap.size wr w') rfl (below_drew (Below.refl _ _)) (fun hSw => ?_)
    refine wpT (i := 0) (v := ?vrm0) ?hrm0 hSw ?krm0
    case hrm0 => (intro w hSw; skip; go_simp; try (with_reducible rfl))
    go_simp
    refine wpT (i := 1) (v := ?vrm1) ?hrm1 hSw ?krm1
    case hrm1 => (intro w hSw; skip; go_simp; try (with_reducible rfl))
    go_simp
    refine wpT (i := 2) (v := ?vrm2) ?hrm2 hSw ?krm2
    case hrm2 => (intro w hSw; skip; go_simp; try (with_reducible rfl))
    go_simp
    refine wpT (i := 3) (v := ?vrm3) ?hrm3 hSw ?krm3
    case hrm3 => (intro w hSw; skip; go_simp; try (with_reducible rfl))
    go_simp
    refine wpT (i := 4) (v := ?vrm4) ?hrm4 hSw ?krm4
    case hrm4 => (intro w hSw; skip; go_simp; try (with_reducible rfl))
    go_simp
    refine wpT0 (i := 5) hSw ?_
    go_simp
    refine wpT0 (i := 6) hSw ?_
    go_simp
    refine wpT0 (i := 7) hSw ?_
    go_simp
    refine wpT0 (i := 8) hSw ?_
    go_simp
    refine wpT0 (i := 9) hSw ?_
    go_simp
    refine wpT0 (i := 10) hSw ?_
    go_simp
    refine wpT0 (i := 11) hSw ?_
    go_simp
    refine wpT0 (i := 12) hSw ?_
    go_simp
    refine wpT (i := 13) (v := ?vrm13) ?hrm13 hSw ?krm13
    case hrm13 => (intro w hSw; skip; go_simp; try (with_reducible rfl))
    go_simp
    refine wpT (i := 14) (v := ?vrm14) ?hrm14 hSw ?krm14
    case hrm14 => (intro w hSw; skip; go_simp; try (with_reducible rfl))
    go_simp
    refine wpT (i := 15) (v := ?vrm15) ?hrm15 hSw ?krm15
    case hrm15 => (intro w hSw; skip; go_simp; try (with_reducible rfl))
    go_simp
    refine wpAnyH_done (by kernel_rfl) ?_ _
    have hby := later_ hbV (hbz _ hSw)
    go_wp2
    go_ret2
    exact ⟨rfl, hby⟩
theorem at_pos {l : List It} (h : Rises l) (x : It) (hk : pos l x < l.length) : It.same l[pos l x] x = l.any (fun y => It.same y x) := by
 cases hs : It.same l[pos l x] x with
 | true => exact (List.any_eq_true.2 ⟨_, List.getElem_mem _, hs⟩).symm
 | false =>
  symm
  rw [List.any_eq_false]
  intro y hy hsy
  obtain ⟨i, hi, rfl⟩ := List.getElem_of_mem hy
  have h1 := pos_iff h x hi
  have h2 := pos_iff h x hk
  rw [It.same_iff] at hsy
  have h3 : It.less l[i] x = false := by rw [It.less_no]; omega
  rw [h3] at h1
  have h4 : pos l x ≤ i := by simpa using h1.symm
  rcases Nat.lt_or_ge (pos l x) i with h5 | h5
  ·have h6 := List.pairwise_iff_getElem.1 h _ _ hk hi h5
   have h7 : It.less l[pos l x] x = false := by rw [h2]; simp
   rw [It.less_iff] at h6
   rw [It.less_no] at h7
   omega
  ·have h6 : i = pos l x := by omega
   subst h6
   have : It.same l[pos l x] x = true := by rw [It.same_iff]; exact hsy
   rw [hs] at this
   cases this
theorem off_pos {l : List It} (h : Rises l) (x : It) (hk : ¬ pos l x < l.length) : l.any (fun y => It.same y x) = false := by
 rw [List.any_eq_false]
 intro y hy hsy
 obtain ⟨i, hi, rfl⟩ := List.getElem_of_mem hy
 have h1 := pos_iff h x hi
 rw [It.same_iff] at hsy
 have h3 : It.less l[i] x = false := by rw [It.less_no]; omega
 rw [h3] at h1
 have h4 : pos l x ≤ i := by simpa using h1.symm
 omega
theorem place_any (A : Option Addr) (n c : Nat) (l : List It) (x : It) (w : World) (hn : n ≤ 1000000) (hR : Rises l) (hr : Row w.heap.size w A n 5 (itc l)) :
  Calls Tryz.prog 150 #[.slice A n c, x.val] w fun e w' => e = .returned (.tuple #[.int .i64 (pos l x : Int), .bool (l.any fun y => y.same x)]) ∧ Below w.heap.size w w' := by
 have hnn := hr.itlen
 have hpl := pos_le l x
 have hbV := (Below.refl w.heap.size w).alloc (Nat.le_refl _) (.cells #[.int .i64 x.s, .int .i64 x.k, .int .u64 (x.t : Int), .int .u64 (x.v : Int), .int .i64 x.x] 27)
 have hbx := BoxO.new w #[.int .i64 x.s, .int .i64 x.k, .int .u64 (x.t : Int), .int .u64 (x.v : Int), .int .i64 x.x] 27
 have hbs := ibsearch_any A n c l x (w.alloc (.cells #[.int .i64 x.s, .int .i64 x.k, .int .u64 (x.t : Int), .int .u64 (x.v : Int), .int .i64 x.x] 27)) hn hR ((hr.below hbV).up hbV.size)
 unfold It.val at hbs ⊢
 have hon := fun h => at_pos hR x h
 have hoff := off_pos hR x
 generalize (l.any fun y => y.same x) = b at *
 generalize hrp : pos l x = r at *
 have HON := Lib.hid hon
 have HOFF := Lib.hid hoff
 have HRP := Lib.hid hrp
 clear hon hoff hrp
 have HBS := Lib.hid hbs
 clear hbs
 go_enter Tryz.func150, Tryz.ntmps150
 go_wp2_with fail
 refine HBS.out.mono ?_
 rintro e W ⟨rfl, hbl⟩
 generalize w.alloc (.cells #[.int .i64 x.s, .int .i64 x.k, .int .u64 (x.t : Int), .int .u64 (x.v : Int), .int .i64 x.x] 27) = V at *
 obtain ⟨g, hg⟩ : ∃ g, g = w.heap.size := ⟨_, rfl⟩
 rw [← hg] at hbx ⊢
 clear hg HBS
 by_cases hrn : r < n
 ·have hrn2 : (r : Int) < (n : Int) := by omega
  obtain ⟨a, hl, rfl, hbk, hd⟩ := ((hr.below hbV).up hbV.size |>.below hbl).it (k := r) (by omega)
  have hsm := HON.out (by omega)
  generalize l[r] = y at *
  have hcm := fun W => isame_any y x W
  unfold It.val at hcm
  rw [hsm] at hcm
  have hkc : ∀ w', Below W.heap.size W w' → (w'.cell? (a.add (r * 5)) = some (.int .i64 y.s) ∧ w'.cell? ⟨(a.add (r * 5)).block, (a.add (r * 5)).off + 1, none⟩ = some (.int .i64 y.k) ∧ w'.cell? ⟨(a.add (r * 5)).block, (a.add (r * 5)).off + 2, none⟩ = some (.int .u64 (y.t : Int)) ∧ w'.cell? ⟨(a.add (r * 5)).block, (a.add (r * 5)).off + 3, none⟩ = some (.int .u64 (y.v : Int)) ∧ w'.cell? ⟨(a.add (r * 5)).block, (a.add (r * 5)).off + 4, none⟩ = some (.int .i64 y.x)) ∧ w'.cell? ⟨g, 0, none⟩ = some (.int .i64 x.s) ∧ w'.cell? ⟨g, 1, none⟩ = some (.int .i64 x.k) ∧ w'.cell? ⟨g, 2, none⟩ = some (.int .u64 (x.t : Int)) ∧ w'.cell? ⟨g, 3, none⟩ = some (.int .u64 (x.v : Int)) ∧ w'.cell? ⟨g, 4, none⟩ = some (.int .i64 x.x) := fun w' hb => by
   have h1 := hd.below (B := W.heap.size) (w' := w') (Nat.lt_of_lt_of_le hbk hbl.size) hb
   have h2 := (hbx.below hbl).below hb
   exact ⟨⟨h1.c0, h1.c1, h1.c2, h1.c3, h1.c4⟩, h2.cell 0, h2.cell 1, h2.cell 2, h2.cell 3, h2.cell 4⟩
  have KC := Lib.hid hkc
  have HL := Lib.hid hcm
  clear hkc hcm hd hsm
  go_wp2_with fail
  refine wp_region_held_drew (S := fun w' => Below W.heap.size W w') rfl (below_drew (Below.refl _ _)) (fun hSw => ?_)
  refine wpT (i := 0) (v := ?vrd0) ?hrd0 hSw ?krd0
  case hrd0 => (intro w hSw; (obtain ⟨⟨c0, c1, c2, c3, c4⟩, d0, d1, d2, d3, d4⟩ := KC.out w hSw); go_simp; try (with_reducible rfl))
  go_simp
  refine wpT (i := 1) (v := ?vrd1) ?hrd1 hSw ?krd1
  case hrd1 => (intro w hSw; (obtain ⟨⟨c0, c1, c2, c3, c4⟩, d0, d1, d2, d3, d4⟩ := KC.out w hSw); go_simp; try (with_reducible rfl))
  go_simp
  refine wpT (i := 2) (v := ?vrd2) ?hrd2 hSw ?krd2
  case hrd2 => (intro w hSw; (obtain ⟨⟨c0, c1, c2, c3, c4⟩, d0, d1, d2, d3, d4⟩ := KC.out w hSw); go_simp; try (with_reducible rfl))
  go_simp
  refine wpT (i := 3) (v := ?vrd3) ?hrd3 hSw ?krd3
  case hrd3 => (intro w hSw; (obtain ⟨⟨c0, c1, c2, c3, c4⟩, d0, d1, d2, d3, d4⟩ := KC.out w hSw); go_simp; try (with_reducible rfl))
  go_simp
  refine wpT (i := 4) (v := ?vrd4) ?hrd4 hSw ?krd4
  case hrd4 => (intro w hSw; (obtain ⟨⟨c0, c1, c2, c3, c4⟩, d0, d1, d2, d3, d4⟩ := KC.out w hSw); go_simp; try (with_reducible rfl))
  go_simp
  refine wpT (i := 5) (v := ?vrd5) ?hrd5 hSw ?krd5
  case hrd5 => (intro w hSw; (obtain ⟨⟨c0, c1, c2, c3, c4⟩, d0, d1, d2, d3, d4⟩ := KC.out w hSw); go_simp; try (with_reducible rfl))
  go_simp
  refine wpT (i := 6) (v := ?vrd6) ?hrd6 hSw ?krd6
  case hrd6 => (intro w hSw; (obtain ⟨⟨c0, c1, c2, c3, c4⟩, d0, d1, d2, d3, d4⟩ := KC.out w hSw); go_simp; try (with_reducible rfl))
  go_simp
  refine wpT (i := 7) (v := ?vrd7) ?hrd7 hSw ?krd7
  case hrd7 => (intro w hSw; (obtain ⟨⟨c0, c1, c2, c3, c4⟩, d0, d1, d2, d3, d4⟩ := KC.out w hSw); go_simp; try (with_reducible rfl))
  go_simp
  refine wpT (i := 8) (v := ?vrd8) ?hrd8 hSw ?krd8
  case hrd8 => (intro w hSw; (obtain ⟨⟨c0, c1, c2, c3, c4⟩, d0, d1, d2, d3, d4⟩ := KC.out w hSw); go_simp; try (with_reducible rfl))
  go_simp
  refine wpT (i := 9) (v := ?vrd9) ?hrd9 hSw ?krd9
  case hrd9 => (intro w hSw; (obtain ⟨⟨c0, c1, c2, c3, c4⟩, d0, d1, d2, d3, d4⟩ := KC.out w hSw); go_simp; try (with_reducible rfl))
  go_simp
  refine wpT (i := 10) (v := ?vrd10) ?hrd10 hSw ?krd10
  case hrd10 => (intro w hSw; (obtain ⟨⟨c0, c1, c2, c3, c4⟩, d0, d1, d2, d3, d4⟩ := KC.out w hSw); go_simp; try (with_reducible rfl))
  go_simp
  refine wpAnyH_ready (rs := [11]) (by kernel_rfl) (by simp) ?_
  refine AllReadyH.cons rfl (fun K hK => ?_) AllReadyH.nil
  go_simp
  with_reducible refine (HL.out _).mono ?_
  rintro e w1 ⟨rfl, hb1⟩
  go_simp
  refine hK.out _ _ (hSw.trans (hb1.mono hSw.size)) (fun hSn => ?_)
  clear hK K hSw
  have hSw := hSn
  clear hSn
  go_simp
  refine wpT (i := 12) (v := ?vrd12) ?hrd12 hSw ?krd12
  case hrd12 => (intro w hSw; (obtain ⟨⟨c0, c1, c2, c3, c4⟩, d0, d1, d2, d3, d4⟩ := KC.out w hSw); go_simp; try (with_reducible rfl))
  go_simp
  refine wpT (i := 13) (v := ?vrd13) ?hrd13 hSw ?krd13
  case hrd13 => (intro w hSw; (obtain ⟨⟨c0, c1, c2, c3, c4⟩, d0, d1, d2, d3, d4⟩ := KC.out w hSw); go_simp; try (with_reducible rfl))
  go_simp
  refine wpT (i := 14) (v := ?vrd14) ?hrd14 hSw ?krd14
  case hrd14 => (intro w hSw; (obtain ⟨⟨c0, c1, c2, c3, c4⟩, d0, d1, d2, d3, d4⟩ := KC.out w hSw); go_simp; try (with_reducible rfl))
  go_simp
  refine wpAnyH_done (by kernel_rfl) ?_ _
  have hby := later_ hbV (hbl.trans (hSw.mono hbl.size))
  clear hSw KC HL
  go_wp2
  go_ret2
  exact ⟨rfl, hby⟩
 ·have hbf := HOFF.out (by omega)
  have hbf := hbf
  subst hbf
  have hrn2 : ((r : Int) < (n : Int)) = False := eq_false (by omega)
  go_wp2_with fail
  refine wp_region_held_drew (S := fun w' => Below W.heap.size W w') rfl (below_drew (Below.refl _ _)) (fun hSw => ?_)
  refine wpT (i := 0) (v := ?vre0) ?hre0 hSw ?kre0
  case hre0 => (intro w hSw; skip; go_simp; try (with_reducible rfl))
  go_simp
  refine wpT (i := 1) (v := ?vre1) ?hre1 hSw ?kre1
  case hre1 => (intro w hSw; skip; go_simp; try (with_reducible rfl))
  go_simp
  refine wpT (i := 2) (v := ?vre2) ?hre2 hSw ?kre2
  case hre2 => (intro w hSw; skip; go_simp; try (with_reducible rfl))
  go_simp
  refine wpT (i := 3) (v := ?vre3) ?hre3 hSw ?kre3
  case hre3 => (intro w hSw; skip; go_simp; try (with_reducible rfl))
  go_simp
  refine wpT (i := 4) (v := ?vre4) ?hre4 hSw ?kre4
  case hre4 => (intro w hSw; skip; go_simp; try (with_reducible rfl))
  go_simp
  refine wpT (i := 5) (v := ?vre5) ?hre5 hSw ?kre5
  case hre5 => (intro w hSw; skip; go_simp; try (with_reducible rfl))
  go_simp
  refine wpT0 (i := 6) hSw ?_
  go_simp
  refine wpT0 (i := 7) hSw ?_
  go_simp
  refine wpT0 (i := 8) hSw ?_
  go_simp
  refine wpT0 (i := 9) hSw ?_
  go_simp
  refine wpT0 (i := 10) hSw ?_
  go_simp
  refine wpT0 (i := 11) hSw ?_
  go_simp
  refine wpT (i := 12) (v := ?vre12) ?hre12 hSw ?kre12
  case hre12 => (intro w hSw; skip; go_simp; try (with_reducible rfl))
  go_simp
  refine wpT (i := 13) (v := ?vre13) ?hre13 hSw ?kre13
  case hre13 => (intro w hSw; skip; go_simp; try (with_reducible rfl))
  go_simp
  refine wpT (i := 14) (v := ?vre14) ?hre14 hSw ?kre14
  case hre14 => (intro w hSw; skip; go_simp; try (with_reducible rfl))
  go_simp
  refine wpAnyH_done (by kernel_rfl) ?_ _
  have hby := later_ hbV (hbl.trans (hSw.mono hbl.size))
  go_wp2
  go_ret2
  exact ⟨rfl, hby⟩
end
section
open Go Go.RowKit
def It.none_ : It := ⟨0, 0, 0, 0, 0⟩
def tkey (s : Int) : It := ⟨s, 1, 0, 0, 0⟩
theorem hidden_tomb {l : List It} (h : Rises l) (hk : ∀ y ∈ l, y.ok = true) (x y : It) (hy : (l.any fun y => y.same (tkey x.s)) = true → y ∈ l ∧ y.same (tkey x.s) = true) : hidden l x = ((l.any fun y => y.same (tkey x.s)) && y.hides x) := by
 unfold hidden
 have hs : ∀ t ∈ l, t.hides x = true → t.same (tkey x.s) = true := fun t ht hh => by
  have h1 := hk t ht
  rw [It.ok_iff] at h1
  rw [It.hides_iff] at hh
  rw [It.same_iff]
  unfold tkey
  simp only
  omega
 cases hb : l.any fun y => y.same (tkey x.s) with
 | false =>
  rw [Bool.false_and, List.any_eq_false]
  intro t ht hh
  exact (List.any_eq_false.1 hb) t ht (hs t ht hh)
 | true =>
  obtain ⟨h1, h2⟩ := hy hb
  rw [Bool.true_and]
  cases hh : y.hides x with
  | true => exact List.any_eq_true.2 ⟨y, h1, hh⟩
  | false =>
   rw [List.any_eq_false]
   intro t ht hth
   have h3 := hs t ht hth
   have : t = y := rises_inj h ht h1 (by rw [It.same_iff] at *; omega)
   rw [this, hh] at hth
   cases hth
theorem tomb_any (A : Option Addr) (n c : Nat) (l : List It) (s : Int) (w : World) (hn : n ≤ 1000000) (hR : Rises l) (hr : Row w.heap.size w A n 5 (itc l)) :
  Calls Tryz.prog 204 #[.slice A n c, .int .i64 s] w fun e w' => ∃ y : It, e = .returned (.tuple #[y.val, .bool (l.any fun y => y.same (tkey s))]) ∧ ((l.any fun y => y.same (tkey s)) = true → y ∈ l ∧ y.same (tkey s) = true) ∧ Below w.heap.size w w' := by
 have hnn := hr.itlen
 have hbV := (Below.refl w.heap.size w).alloc (Nat.le_refl _) (.cells #[.int .i64 0, .int .i64 0, .int .u64 0, .int .u64 0, .int .i64 0] 27)
 have hbx := BoxO.new w #[.int .i64 0, .int .i64 0, .int .u64 0, .int .u64 0, .int .i64 0] 27
 have hpl := place_any A n c l (tkey s) (w.alloc (.cells #[.int .i64 0, .int .i64 0, .int .u64 0, .int .u64 0, .int .i64 0] 27)) hn hR ((hr.below hbV).up hbV.size)
 have hon := fun h => at_pos hR (tkey s) h
 have hoff := off_pos hR (tkey s)
 generalize (l.any fun y => y.same (tkey s)) = b at *
 generalize pos l (tkey s) = r at *
 unfold It.val tkey at hpl
 unfold It.val
 have HPL := Lib.hid hpl
 have HON := Lib.hid hon
 have HOFF := Lib.hid hoff
 clear hpl hon hoff
 go_enter Tryz.func204, Tryz.ntmps204
 go_wp2_with fail
 refine HPL.out.mono ?_
 rintro e W ⟨rfl, hbl⟩
 generalize w.alloc (.cells #[.int .i64 0, .int .i64 0, .int .u64 0, .int .u64 0, .int .i64 0] 27) = V at *
 obtain ⟨g, hg⟩ : ∃ g, g = w.heap.size := ⟨_, rfl⟩
 have hgb : w.heap.size ≤ g := by omega
 rw [← hg] at hbx ⊢
 clear hg HPL
 have hbW := hbx.below hbl
 have b0 := hbW.cell 0
 have b1 := hbW.cell 1
 have b2 := hbW.cell 2
 have b3 := hbW.cell 3
 have b4 := hbW.cell 4
 have z0 := hbW.free 0
 have z1 := hbW.free 1
 have z2 := hbW.free 2
 have z3 := hbW.free 3
 have z4 := hbW.free 4
 have hbz := later_ hbV hbl
 simp only [gE0, gE1] at b0 b1 b2 b3 b4
 cases b with
 | false =>
  go_wp2
  refine bodyPost_ret (v := .tuple #[.agg #[.int .i64 0, .int .i64 0, .int .u64 0, .int .u64 0, .int .i64 0], .bool false]) (by simp [results, go_sem, *]) rfl ⟨It.none_, rfl, (fun h => by cases h), ?_⟩
  exact ((((hbz.setCell (p := ⟨g, 0, none⟩) hgb _).setCell (p := ⟨g, 1, none⟩) hgb _).setCell (p := ⟨g, 2, none⟩) hgb _).setCell (p := ⟨g, 3, none⟩) hgb _).setCell (p := ⟨g, 4, none⟩) hgb _
 | true =>
  have hrn : r < n := by
   rcases Nat.lt_or_ge r l.length with h | h
   ·omega
   ·have := HOFF.out (by omega)
    cases this
  obtain ⟨a, hl, rfl, hbk, hd⟩ := ((hr.below hbV).up hbV.size |>.below hbl).it (k := r) hrn
  obtain ⟨c0, c1, c2, c3, c4⟩ := hd
  have hsm := HON.out hl
  have hmem := List.getElem_mem hl
  generalize l[r] = y at *
  have HS := Lib.hid (And.intro hmem hsm)
  have hrn2 : (r : Int) < (n : Int) := by omega
  clear hmem hsm HON HOFF
  go_wp2
  refine bodyPost_ret (v := .tuple #[.agg #[.int .i64 y.s, .int .i64 y.k, .int .u64 (y.t : Int), .int .u64 (y.v : Int), .int .i64 y.x], .bool true]) (by simp [results, go_sem, *]) rfl ⟨y, rfl, HS.out, ?_⟩
  exact ((((hbz.setCell (p := ⟨g, 0, none⟩) hgb _).setCell (p := ⟨g, 1, none⟩) hgb _).setCell (p := ⟨g, 2, none⟩) hgb _).setCell (p := ⟨g, 3, none⟩) hgb _).setCell (p := ⟨g, 4, none⟩) hgb _
theorem hidden_any (A : Option Addr) (n c : Nat) (l : List It) (x : It) (w : World) (hn : n ≤ 1000000) (hR : Rises l) (hk : ∀ y ∈ l, y.ok = true) (hr : Row w.heap.size w A n 5 (itc l)) :
  Calls Tryz.prog 149 #[.slice A n c, x.val] w fun e w' => e = .returned (.bool (hidden l x)) ∧ Below w.heap.size w w' := by
 have hbV := (Below.refl w.heap.size w).alloc (Nat.le_refl _) (.cells #[.int .i64 x.s, .int .i64 x.k, .int .u64 (x.t : Int), .int .u64 (x.v : Int), .int .i64 x.x] 27)
 have hbx := BoxO.new w #[.int .i64 x.s, .int .i64 x.k, .int .u64 (x.t : Int), .int .u64 (x.v : Int), .int .i64 x.x] 27
 have htb := tomb_any A n c l x.s (w.alloc (.cells #[.int .i64 x.s, .int .i64 x.k, .int .u64 (x.t : Int), .int .u64 (x.v : Int), .int .i64 x.x] 27)) hn hR ((hr.below hbV).up hbV.size)
 have hht := fun y => hidden_tomb hR hk x y
 obtain ⟨r, hrp⟩ : ∃ r, r = hidden l x := ⟨_, rfl⟩
 rw [← hrp]
 simp only [← hrp] at hht
 unfold It.val at htb ⊢
 generalize (l.any fun y => y.same (tkey x.s)) = b at *
 have HTB := Lib.hid htb
 have HHT := Lib.hid hht
 clear htb hht hrp
 go_enter Tryz.func149, Tryz.ntmps149
 go_wp2_with fail
 refine HTB.out.mono ?_
 rintro e W ⟨y, rfl, hy, hbl⟩
 have hh := HHT.out y hy
 generalize w.alloc (.cells #[.int .i64 x.s, .int .i64 x.k, .int .u64 (x.t : Int), .int .u64 (x.v : Int), .int .i64 x.x] 27) = V at *
 obtain ⟨g, hg⟩ : ∃ g, g = w.heap.size := ⟨_, rfl⟩
 rw [← hg] at hbx ⊢
 clear hg HTB HHT hy
 have hbz := later_ hbV hbl
 have hbW := hbx.below hbl
 have hbo := (Below.refl W.heap.size W).alloc (Nat.le_refl _) (.cells #[.int .i64 y.s, .int .i64 y.k, .int .u64 (y.t : Int), .int .u64 (y.v : Int), .int .i64 y.x] 27)
 have b0 := (hbW.below hbo).cell 0
 have b1 := (hbW.below hbo).cell 1
 have b2 := (hbW.below hbo).cell 2
 have b3 := (hbW.below hbo).cell 3
 have b4 := (hbW.below hbo).cell 4
 simp only [gE0, gE1] at b0 b1 b2 b3 b4
 have HH := Lib.hid hh
 have hid2 := fun W => ihides_any y x W
 unfold It.val at hid2
 generalize y.hides x = q at *
 have HD := Lib.hid hid2
 have hby := later_ hbz hbo
 clear hh hid2
 cases b with
 | false =>
  have HR := Lib.hid (show r = false from HH.out.trans (Bool.false_and _))
  clear HH
  go_wp2
  go_ret
  exact ⟨ret_bo HR.out.symm, hby⟩
 | true =>
  have HR := Lib.hid (show r = q from HH.out.trans (Bool.true_and _))
  clear HH
  go_wp2_with fail
  refine (HD.out _).mono ?_
  rintro e W2 ⟨rfl, hb2⟩
  have hbx := later_ hby hb2
  go_wp2
  go_ret
  exact ⟨ret_bo HR.out.symm, hbx⟩
end
section
open Go Go.RowKit
theorem fhas_cap (K : Nat) (hF : ∀ args w, (callFunc K args).run Tryz.prog w = .ok (.enter K args) w) (p : Addr) (P : Int × Int → Bool) (A : Option Addr) (n c : Nat) (fs : List (Int × Int)) (w : World) (hn : n ≤ 1000000) (hr : Row w.heap.size w A n 2 (fcells fs))
  (hK : ∀ f w1, Below w.heap.size w w1 → Calls Tryz.prog K #[.agg #[.int .i64 f.1, .int .i64 f.2], .pointer (some p)] w1 fun e w' => e = .returned (.bool (P f)) ∧ Below w1.heap.size w1 w') :
  Calls Tryz.prog 232 #[.slice A n c, .func (.func K) #[] #[.pointer (some p)]] w fun e w' => e = .returned (.bool (fs.any P)) ∧ Below w.heap.size w w' := by
 have hge := fidx_ge P fs
 have hq := fidx_cap K hF p P A n c fs w hn hr hK
 clear hK
 generalize fidx P fs = i at *
 have HGE := Lib.hid hge
 clear hge
 go_enter Tryz.func232, Tryz.ntmps232
 go_wp2_with fail
 refine hq.mono ?_
 rintro e w1 ⟨rfl, hb⟩
 clear hq
 go_wp2
 go_ret
 exact ⟨ret_b HGE.out, hb⟩
theorem fhas_may (A : Option Addr) (n c : Nat) (fs : List (Int × Int)) (w : World) (hn : n ≤ 1000000) (hr : Row w.heap.size w A n 2 (fcells fs)) :
  Calls Tryz.prog 232 #[.slice A n c, .func (.func 264) #[] #[]] w fun e w' => e = .returned (.bool (fs.any fun f => !isFile f)) ∧ Below w.heap.size w w' := by
 have hidx : Calls Tryz.prog 237 #[.slice A n c, .func (.func 264) #[] #[]] w fun e w' => e = .returned (.int .i64 (fidx (fun f => !isFile f) fs)) ∧ Below w.heap.size w w' := by
  obtain ⟨P, hP⟩ : ∃ P : Int × Int → Bool, P = fun f => !isFile f := ⟨_, rfl⟩
  have hK : ∀ f w1, Calls Tryz.prog 264 #[.agg #[.int .i64 f.1, .int .i64 f.2]] w1 fun e w' => e = .returned (.bool (P f)) ∧ Below w1.heap.size w1 w' := fun f w1 => by rw [hP]; exact may2_any f w1
  rw [← hP]
  have hnn := hr.flen
  have HK := Lib.hid hK
  clear hK hP
  go_enter Tryz.func237, Tryz.ntmps237
  go_wp2
  go_loopw [8] (fun i wr => ∃ k : Nat, k ≤ n ∧ i = .int .i64 (k : Int) ∧ Hid ((fs.take k).any P = false) ∧ Below w.heap.size w wr) (fun i _ => n - (intOf i).toNat)
  case atStart => exact ⟨0, Nat.zero_le _, rfl, Lib.hid rfl, Below.refl _ _⟩
  case round =>
   obtain ⟨k, hk, rfl, hb, hbl⟩ := hrel
   by_cases hlt : k < n
   ·obtain ⟨a, hl, rfl, hbk, c0, c1⟩ := (hr.below hbl).file hlt
    have ht := any_take (P := P) hl
    have hs := fun h1 => fidx_some (P := P) hl hb.out h1
    generalize fs[k] = f at *
    have HT := Lib.hid ht
    have HS := Lib.hid hs
    clear ht hs hl
    have hc := HK.out f wr
    cases hp : P f with
    | true =>
     rw [hp] at hc
     have HP := Lib.hid hp
     clear hp
     go_wp2_with fail
     refine hc.mono ?_
     rintro e w1 ⟨rfl, hb1⟩
     go_wp2
     go_ret
     exact ⟨ret_i (HS.out HP.out).symm, later_ hbl hb1⟩
    | false =>
     rw [hp] at hc
     have HP := Lib.hid hp
     clear hp
     go_wp2_with fail
     refine hc.mono ?_
     rintro e w1 ⟨rfl, hb1⟩
     go_wp2
     go_roundw
     case rel => exact ⟨k + 1, by omega, by go_num, Lib.hid (by rw [HT.out, hb.out, HP.out]; rfl), later_ hbl hb1⟩
     case measure => simp [intOf]; omega
   ·have hall : fidx P fs = -1 := fidx_none (by
     have hb' := hb.out
     rwa [List.take_of_length_le (by omega)] at hb')
    have HA := Lib.hid hall
    clear hall
    go_wp2
    go_ret
    exact ⟨ret_i HA.out.symm, hbl⟩
 have hge := fidx_ge (fun f => !isFile f) fs
 generalize fidx (fun f => !isFile f) fs = i at *
 have HGE := Lib.hid hge
 clear hge
 go_enter Tryz.func232, Tryz.ntmps232
 go_wp2_with fail
 refine hidx.mono ?_
 rintro e w1 ⟨rfl, hb⟩
 clear hidx
 go_wp2
 go_ret
 exact ⟨ret_b HGE.out, hb⟩
theorem ihas_may (A : Option Addr) (n c : Nat) (ns : List Int) (w : World) (hn : n ≤ 1000000) (hr : Row w.heap.size w A n 1 (icells ns)) :
  Calls Tryz.prog 262 #[.slice A n c, .func (.func 263) #[] #[]] w fun e w' => e = .returned (.bool (ns.any fun f => !isNum f)) ∧ w = w' := by
 have hidx : Calls Tryz.prog 296 #[.slice A n c, .func (.func 263) #[] #[]] w fun e w' => e = .returned (.int .i64 (fidx (fun f => !isNum f) ns)) ∧ w = w' := by
  obtain ⟨P, hP⟩ : ∃ P : Int → Bool, P = fun f => !isNum f := ⟨_, rfl⟩
  have hK : ∀ f w1, Calls Tryz.prog 263 #[.int .i64 f] w1 fun e w' => e = .returned (.bool (P f)) ∧ w1 = w' := fun f w1 => by rw [hP]; exact may1_any f w1
  rw [← hP]
  have hnn := hr.ilen
  have HK := Lib.hid hK
  clear hK hP
  go_enter Tryz.func296, Tryz.ntmps296
  go_wp2
  go_loop [8] (fun i => ∃ k : Nat, k ≤ n ∧ i = .int .i64 (k : Int) ∧ Hid ((ns.take k).any P = false)) (fun i => n - (intOf i).toNat)
  case atStart => exact ⟨0, Nat.zero_le _, rfl, Lib.hid rfl⟩
  case round =>
   obtain ⟨k, hk, rfl, hb⟩ := hrel
   by_cases hlt : k < n
   ·obtain ⟨a, hl, rfl, hbk, c0⟩ := hr.int_ hlt
    have ht := any_take (P := P) hl
    have hs := fun h1 => fidx_some (P := P) hl hb.out h1
    generalize ns[k] = f at *
    have HT := Lib.hid ht
    have HS := Lib.hid hs
    clear ht hs hl
    have hc := HK.out f w
    cases hp : P f with
    | true =>
     rw [hp] at hc
     have HP := Lib.hid hp
     clear hp
     go_wp2_with fail
     refine hc.mono ?_
     rintro e w1 ⟨rfl, rfl⟩
     go_wp2
     go_ret
     exact ⟨ret_i (HS.out HP.out).symm, rfl⟩
    | false =>
     rw [hp] at hc
     have HP := Lib.hid hp
     clear hp
     go_wp2_with fail
     refine hc.mono ?_
     rintro e w1 ⟨rfl, rfl⟩
     go_wp2
     go_round
     case rel => exact ⟨k + 1, by omega, by go_num, Lib.hid (by rw [HT.out, hb.out, HP.out]; rfl)⟩
     case measure => simp [intOf]; omega
   ·have hall : fidx P ns = -1 := fidx_none (by
     have hb' := hb.out
     rwa [List.take_of_length_le (by omega)] at hb')
    have HA := Lib.hid hall
    clear hall
    go_wp2
    go_ret
    exact ⟨ret_i HA.out.symm, rfl⟩
 have hge := fidx_ge (fun f => !isNum f) ns
 generalize fidx (fun f => !isNum f) ns = i at *
 have HGE := Lib.hid hge
 clear hge
 go_enter Tryz.func262, Tryz.ntmps262
 go_wp2_with fail
 refine hidx.mono ?_
 rintro e w1 ⟨rfl, rfl⟩
 clear hidx
 go_wp2
 go_ret
 exact ⟨ret_b HGE.out, rfl⟩
theorem four_bigs (a b c d : Nat) : four4 a b c d = !bigs [a, b, c, d] := by
 rw [Bool.eq_iff_iff]
 simp [four4, bigs]
 omega
theorem apart_pairs : ∀ fs : List (Int × Int), apart fs = true ↔ fs.Pairwise fun f g => g.2 ≠ f.2
 | [] => by simp [apart]
 | f :: r => by
  rw [apart, List.pairwise_cons, Bool.and_eq_true, apart_pairs r]
  simp
theorem files_good (fs : List (Int × Int)) : (fs.all isFile && apart fs) = true ↔ ∀ k (h : k < fs.length), isFile fs[k] = true ∧ (fs.take k).any (fun g => g.2 == (fs[k]).2) = false := by
 rw [Bool.and_eq_true, apart_pairs, List.all_eq_true, List.pairwise_iff_getElem]
 constructor
 ·rintro ⟨h1, h2⟩ k hk
  refine ⟨h1 _ (List.getElem_mem hk), ?_⟩
  rw [List.any_eq_false]
  intro g hg
  obtain ⟨i, hi, rfl⟩ := List.mem_take_iff_getElem.1 hg
  have := h2 i k (by omega) hk (by omega)
  simp only [beq_iff_eq]
  exact fun e => this e.symm
 ·intro h
  refine ⟨fun f hf => ?_, fun i j hi hj hij => ?_⟩
  ·obtain ⟨k, hk, rfl⟩ := List.getElem_of_mem hf
   exact (h k hk).1
  ·have := List.any_eq_false.1 (h j hj).2 fs[i] (List.mem_take_iff_getElem.2 ⟨i, by omega, rfl⟩)
   simp only [beq_iff_eq] at this
   exact fun e => this e.symm
def Vw.val (v : Vw) (A : Option Addr) (n c : Nat) : Value := .agg #[.int .i64 v.log, .slice A n c, .int .u64 (v.floor : Int), .int .u64 (v.cert : Int), .int .u64 (v.at_ : Int), .int .u64 (v.lease : Int)]
def Vw.cells (v : Vw) (A : Option Addr) (n c : Nat) : List Value := [.int .i64 v.log, .slice A n c, .int .u64 (v.floor : Int), .int .u64 (v.cert : Int), .int .u64 (v.at_ : Int), .int .u64 (v.lease : Int)]
def Ed.val (e : Ed) (D : Option Addr) (m d : Nat) (A : Option Addr) (n c : Nat) : Value := .agg #[.slice D m d, .slice A n c, .int .i64 e.log, .int .u64 (e.floor : Int), .int .u64 (e.cert : Int), .int .u64 (e.at_ : Int), .int .u64 (e.lease : Int)]
def Ed.cells (e : Ed) (D : Option Addr) (m d : Nat) (A : Option Addr) (n c : Nat) : List Value := [.slice D m d, .slice A n c, .int .i64 e.log, .int .u64 (e.floor : Int), .int .u64 (e.cert : Int), .int .u64 (e.at_ : Int), .int .u64 (e.lease : Int)]
theorem ok_gen (v : Vw) (A : Option Addr) (n c : Nat) (w : World) (hn : n ≤ 1000000) (hnc : n ≤ c) (_hcm : c ≤ maxLen) (hr : Row w.heap.size w A n 2 (fcells v.files)) :
  Calls Tryz.prog 188 #[v.val A n c] w fun e w' => e = .returned (.bool v.ok) ∧ Below w.heap.size w w' := by
 obtain ⟨g, fs, f, ce, a, l⟩ := v
 obtain ⟨b, hb⟩ : ∃ b, b = Vw.ok ⟨g, fs, f, ce, a, l⟩ := ⟨_, rfl⟩
 have hfl := hr.flen
 rw [← hb]
 unfold Vw.ok at hb
 simp only at hb hr hfl
 rw [four_bigs, hfl, Bool.and_assoc _ _ (apart fs)] at hb
 unfold Vw.val
 simp only
 have hisn := isnum_gen g
 cases h1 : isNum g with
 | false =>
  rw [h1] at hb hisn
  have HB := Lib.hid hb
  clear hb h1
  go_enter Tryz.func188, Tryz.ntmps188
  go_wp2_with fail
  refine (hisn _).mono ?_
  rintro e w1 ⟨rfl, rfl⟩
  go_wp2
  go_ret
  exact ⟨ret_b HB.out.symm, (Below.refl _ _).alloc (Nat.le_refl _) _⟩
 | true =>
  rw [h1] at hb hisn
  by_cases h2 : n ≤ 40
  ·cases h3 : bigs [f, ce, a, l] with
   | true =>
    rw [h3] at hb
    have HB := Lib.hid hb
    clear hb h1
    have HX := Lib.hid h3
    clear h3
    go_enter Tryz.func188, Tryz.ntmps188
    go_wp2_with fail
    refine (hisn _).mono ?_
    rintro e w1 ⟨rfl, rfl⟩
    clear hisn
    have hrow := u64_row (w.alloc (.cells #[.int .i64 g, .slice A n c, .int .u64 (f : Int), .int .u64 (ce : Int), .int .u64 (a : Int), .int .u64 (l : Int)] 134)) 25 #[.int .u64 (f : Int), .int .u64 (ce : Int), .int .u64 (a : Int), .int .u64 (l : Int)] [f, ce, a, l] 4 rfl rfl
    have hmeta := meta_any _ 4 4 [f, ce, a, l] _ (by omega) hrow
    rw [HX.out] at hmeta
    simp only [World.size_alloc, Bool.not_true] at hmeta
    clear hrow
    go_wp2_with fail
    refine hmeta.mono ?_
    rintro e w1 ⟨rfl, rfl⟩
    clear hmeta
    go_wp2
    go_ret
    exact ⟨ret_b (HB.out.trans (by simp)).symm, ((Below.refl _ _).alloc (Nat.le_refl _) _).alloc (by simp) _⟩
   | false =>
    rw [h3] at hb
    have hgd := files_good fs
    have hbb : b = (fs.all isFile && apart fs) := by rw [hb]; simp [h2]
    rw [← hbb] at hgd
    have HG := Lib.hid hgd
    clear hb h1 hgd hbb
    have HX := Lib.hid h3
    clear h3
    go_enter Tryz.func188, Tryz.ntmps188
    go_wp2_with fail
    refine (hisn _).mono ?_
    rintro e w1 ⟨rfl, rfl⟩
    clear hisn
    have hrow := u64_row (w.alloc (.cells #[.int .i64 g, .slice A n c, .int .u64 (f : Int), .int .u64 (ce : Int), .int .u64 (a : Int), .int .u64 (l : Int)] 134)) 25 #[.int .u64 (f : Int), .int .u64 (ce : Int), .int .u64 (a : Int), .int .u64 (l : Int)] [f, ce, a, l] 4 rfl rfl
    have hmeta := meta_any _ 4 4 [f, ce, a, l] _ (by omega) hrow
    rw [HX.out] at hmeta
    simp only [World.size_alloc, Bool.not_false] at hmeta
    clear hrow
    go_wp2_with fail
    refine hmeta.mono ?_
    rintro e w1 ⟨rfl, rfl⟩
    clear hmeta
    have hbx0 := (BoxO.new w #[.int .i64 g, .slice A n c, .int .u64 (f : Int), .int .u64 (ce : Int), .int .u64 (a : Int), .int .u64 (l : Int)] 134).alloc (.cells #[.int .u64 (f : Int), .int .u64 (ce : Int), .int .u64 (a : Int), .int .u64 (l : Int)] 25)
    have hbl0 := ((Below.refl w.heap.size w).alloc (Nat.le_refl _) (.cells #[.int .i64 g, .slice A n c, .int .u64 (f : Int), .int .u64 (ce : Int), .int .u64 (a : Int), .int .u64 (l : Int)] 134)).alloc (by simp) (.cells #[.int .u64 (f : Int), .int .u64 (ce : Int), .int .u64 (a : Int), .int .u64 (l : Int)] 25)
    go_wp2
    go_loopw [31] (fun i wr => ∃ k : Nat, k ≤ n ∧ i = .int .i64 (k : Int) ∧ Hid (∀ j (h : j < fs.length), j < k → isFile fs[j] = true ∧ (fs.take j).any (fun g => g.2 == (fs[j]).2) = false) ∧
     BoxO wr 134 w.heap.size [.int .i64 g, .slice A n c, .int .u64 (f : Int), .int .u64 (ce : Int), .int .u64 (a : Int), .int .u64 (l : Int)] ∧ Below w.heap.size w wr) (fun i _ => n - (intOf i).toNat)
    case atStart => exact ⟨0, Nat.zero_le _, rfl, Lib.hid (fun j h hj => by omega), hbx0, hbl0⟩
    case round =>
     obtain ⟨k, hk, rfl, hgd, hBx, hbl⟩ := hrel
     clear hbx0 hbl0
     by_cases hlt : k < n
     ·have hrk := (hr.pre (m := k) hk).below hbl
      rw [← fcells_take] at hrk
      obtain ⟨ad, hl, rfl, hbk, c0, c1⟩ := (hr.below hbl).file hlt
      have hbad1 : isFile fs[k] = false → b = false := fun h => by
       cases b with
       | false => rfl
       | true => have := (HG.out.1 rfl k hl).1; rw [h] at this; cases this
      have hbad2 : (fs.take k).any (fun g => g.2 == (fs[k]).2) = true → b = false := fun h => by
       cases b with
       | false => rfl
       | true => have := (HG.out.1 rfl k hl).2; rw [h] at this; cases this
      have hnext : isFile fs[k] = true → (fs.take k).any (fun g => g.2 == (fs[k]).2) = false → ∀ j (h : j < fs.length), j < k + 1 → isFile fs[j] = true ∧ (fs.take j).any (fun g => g.2 == (fs[j]).2) = false := fun e1 e2 j hj hjk => by
       rcases Nat.lt_or_ge j k with h | h
       ·exact hgd.out j hj h
       ·obtain rfl : j = k := by omega
        exact ⟨e1, e2⟩
      generalize fs[k] = x at *
      obtain ⟨ps, hps⟩ : ∃ ps, ps = fs.take k := ⟨_, rfl⟩
      rw [← hps] at hbad2 hnext hrk
      have H1 := Lib.hid hbad1
      have H2 := Lib.hid hbad2
      have H3 := Lib.hid hnext
      clear hbad1 hbad2 hnext hgd hps HG HX hl
      have q1 := hBx.cell 1
      simp only [gE0, gE1] at q1
      have hisf := isfile_gen x
      cases hx : isFile x with
      | false =>
       rw [hx] at hisf
       have HF := Lib.hid hx
       clear hx
       go_wp2_with fail
       refine (hisf _).mono ?_
       rintro e w1 ⟨rfl, hb1⟩
       have hbw := later_ (hbl.alloc hbl.size (.cells #[.int .i64 x.1, .int .i64 x.2] 166)) hb1
       clear hisf
       go_wp2
       go_ret
       exact ⟨ret_b (H1.out HF.out).symm, hbw⟩
      | true =>
       rw [hx] at hisf
       have HF := Lib.hid hx
       clear hx
       go_wp2_with fail
       refine (hisf _).mono ?_
       rintro e w1 ⟨rfl, hb1⟩
       have hbA := Below.alloc (Below.refl wr.heap.size wr) (Nat.le_refl _) (.cells #[.int .i64 x.1, .int .i64 x.2] 166)
       have hbw := later_ hbA hb1
       have hB1 := hBx.below hbw
       have hXc : w1.cell? ⟨wr.heap.size, 1, none⟩ = some (.int .i64 x.2) := by
        rw [hb1.cell (p := ⟨wr.heap.size, 1, none⟩) (by simp)]
        exact (BoxO.new wr #[.int .i64 x.1, .int .i64 x.2] 166).cell 1
       have hbz := later_ hbl hbw
       have hrk1 := (hrk.below (hbw.mono hbl.size)).up hbz.size
       have hXlt := World.block_lt_of_cell? w1 _ hXc
       clear hisf hb1 hbA hbw hBx q1 c0 c1
       have q1 := hB1.cell 1
       simp only [gE0, gE1] at q1
       have hfh := fhas_cap 233 (fun _ _ => rfl) ⟨wr.heap.size, 0, none⟩ (fun f => f.2 == x.2) (some ad) k c ps w1 (by omega) hrk1 (fun f w2 hb2 => okc_any f wr.heap.size x.2 w2 ((hb2.cell (p := ⟨wr.heap.size, 1, none⟩) hXlt).trans hXc))
       cases hany : ps.any (fun f => f.2 == x.2) with
       | true =>
        rw [hany] at hfh
        have HY := Lib.hid hany
        clear hany
        go_wp2_with fail
        refine hfh.mono ?_
        rintro e w2 ⟨rfl, hb2⟩
        have hbq := later_ hbz hb2
        clear hfh
        go_wp2
        go_ret
        exact ⟨ret_b (H2.out HY.out).symm, hbq⟩
       | false =>
        rw [hany] at hfh
        have HY := Lib.hid hany
        clear hany
        go_wp2_with fail
        refine hfh.mono ?_
        rintro e w2 ⟨rfl, hb2⟩
        have hbq := later_ hbz hb2
        have hB2 := hB1.below hb2
        clear hfh
        go_wp2
        go_roundw
        case rel => exact ⟨k + 1, by omega, by go_num, Lib.hid (H3.out HF.out HY.out), hB2, hbq⟩
        case measure => simp [intOf]; omega
     ·have hfin : b = true := HG.out.2 (fun j hj => hgd.out j hj (by omega))
      have HF := Lib.hid hfin
      clear hfin hgd HG HX
      go_wp2
      go_ret
      exact ⟨ret_b HF.out.symm, hbl⟩
  ·have hbf : b = false := by rw [hb]; simp [h2]
   have HB := Lib.hid hbf
   clear hb h1 hbf
   go_enter Tryz.func188, Tryz.ntmps188
   go_wp2_with fail
   refine (hisn _).mono ?_
   rintro e w1 ⟨rfl, rfl⟩
   go_wp2
   go_ret
   exact ⟨ret_b HB.out.symm, (Below.refl _ _).alloc (Nat.le_refl _) _⟩
end
end Go.Proofs.YtdkjoigpahafmaaGreatDoor
