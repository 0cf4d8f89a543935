/- Texts RefL, PlainRefAdd, RefM, RefT, RefS, LawN, ItemsOpen in one. No conditions. -/
import Derived.Test.YtdkjoigpahafmaaGreatDoorBunAA
import Derived.Test.YtdkjoigpahafmaaGreatDoorBunAS
import Derived.Test.YtdkjoigpahafmaaGreatDoorBunAD
import Derived.Test.YtdkjoigpahafmaaGreatDoorBunAJ
import Derived.Test.YtdkjoigpahafmaaGreatDoorBunAI
import Derived.Test.YtdkjoigpahafmaaGreatDoorBunAP
import Derived.Test.YtdkjoigpahafmaaGreatDoorBunAN

set_option linter.unusedSimpArgs false
set_option linter.unusedVariables false
set_option maxRecDepth 100000
set_option maxHeartbeats 16000000
namespace Go.Proofs.YtdkjoigpahafmaaGreatDoor
section
open Go Go.RowKit Go.Lib
theorem rstate_any (A : Option Addr) (n c : Nat) (l : List It) (w : World) (hn : n ≤ 1000000) (hS : Stt l) (hr : Row w.heap.size w A n 5 (itc l)) :
  Calls Tryz.prog 51 #[.slice A n c] w fun e w' => e = .returned (.bool true) ∧ Below w.heap.size w w' := by
 have hnn := hr.itlen
 have HS := Lib.hid hS
 have hrr := fun W (hb : Below w.heap.size w W) => rrises_any A n c l W hn hS ((hr.below hb).up hb.size)
 have HRR := Lib.hid hrr
 clear hS hrr
 go_enter Tryz.func51, Tryz.ntmps51
 go_wp2
 go_loopw [3] (fun i wr => ∃ k : Nat, k ≤ n ∧ i = .int .i64 (k : Int) ∧ Below w.heap.size w wr) (fun i _ => n - (intOf i).toNat)
 case atStart => exact ⟨0, Nat.zero_le _, rfl, Below.refl _ _⟩
 case round =>
  obtain ⟨k, hk, rfl, hbl⟩ := hrel
  by_cases hlt : k < n
  ·have hkn : (k : Int) < (n : Int) := by omega
   have hwk : IntKind.i64.wrap (k : Int) = (k : Int) := IntWalk.i64_in _ (by omega)
   go_wp2_with fail
   go_loopw [4] (fun i w2 => ∃ q : Nat, q ≤ n ∧ i = .int .i64 (q : Int) ∧ Below w.heap.size w w2) (fun i _ => n - (intOf i).toNat)
   case atStart => exact ⟨0, Nat.zero_le _, rfl, hbl⟩
   case round =>
    obtain ⟨q, hq, rfl, hb2⟩ := hrel
    by_cases hqn : q < n
    ·obtain ⟨a, hl, rfl, hbk, hd⟩ := (hr.below hb2).it hlt
     obtain ⟨a2, hl2, ea, _, hd2⟩ := (hr.below hb2).it hqn
     injection ea with ea
     subst ea
     have hba := HS.out.bare _ (List.getElem_mem hl) _ (List.getElem_mem hl2)
     have hhd := fun W => rhides_any l[k] l[q] W
     rw [hba] at hhd
     generalize l[k] = x at *
     generalize l[q] = y at *
     have hkc : ∀ w', Below wr.heap.size wr w' → (w'.cell? (a.add (k * 5)) = some (.int .i64 x.s) ∧ w'.cell? ⟨(a.add (k * 5)).block, (a.add (k * 5)).off + 1, none⟩ = some (.int .i64 x.k) ∧ w'.cell? ⟨(a.add (k * 5)).block, (a.add (k * 5)).off + 2, none⟩ = some (.int .u64 (x.t : Int)) ∧ w'.cell? ⟨(a.add (k * 5)).block, (a.add (k * 5)).off + 3, none⟩ = some (.int .u64 (x.v : Int)) ∧ w'.cell? ⟨(a.add (k * 5)).block, (a.add (k * 5)).off + 4, none⟩ = some (.int .i64 x.x)) ∧ w'.cell? (a.add (q * 5)) = some (.int .i64 y.s) ∧ w'.cell? ⟨(a.add (q * 5)).block, (a.add (q * 5)).off + 1, none⟩ = some (.int .i64 y.k) ∧ w'.cell? ⟨(a.add (q * 5)).block, (a.add (q * 5)).off + 2, none⟩ = some (.int .u64 (y.t : Int)) ∧ w'.cell? ⟨(a.add (q * 5)).block, (a.add (q * 5)).off + 3, none⟩ = some (.int .u64 (y.v : Int)) ∧ w'.cell? ⟨(a.add (q * 5)).block, (a.add (q * 5)).off + 4, none⟩ = some (.int .i64 y.x) := fun w' hb => by
      have h1 := hd.below (B := wr.heap.size) (w' := w') (Nat.lt_of_lt_of_le hbk hb2.size) hb
      have h2 := hd2.below (B := wr.heap.size) (w' := w') (Nat.lt_of_lt_of_le hbk hb2.size) hb
      exact ⟨⟨h1.c0, h1.c1, h1.c2, h1.c3, h1.c4⟩, h2.c0, h2.c1, h2.c2, h2.c3, h2.c4⟩
     unfold It.val at hhd
     have KC := Lib.hid hkc
     have HHD := Lib.hid hhd
     have hqn2 : (q : Int) < (n : Int) := by omega
     have hwq : IntKind.i64.wrap (q : Int) = (q : Int) := IntWalk.i64_in _ (by omega)
     have c1 := hd.c1
     by_cases h1 : x.k = 1
     ·have e1 : (x.k == 1) = true := by simp [h1]
      rw [h1] at hhd
      have HHD := Lib.hid hhd
      clear hkc hhd hd hd2 hba
      go_wp2_with fail
      refine wp_region_held_drew (S := fun w' => Below wr.heap.size wr w') rfl (below_drew (Below.refl _ _)) (fun hSw => ?_)
      refine wpT (i := 0) (v := ?vsa0) ?hsa0 hSw ?ksa0
      case hsa0 => (intro w hSw; (obtain ⟨⟨x0, x1, x2, x3, x4⟩, y0, y1, y2, y3, y4⟩ := KC.out w hSw); go_simp; try (with_reducible rfl))
      go_simp
      refine wpT (i := 1) (v := ?vsa1) ?hsa1 hSw ?ksa1
      case hsa1 => (intro w hSw; (obtain ⟨⟨x0, x1, x2, x3, x4⟩, y0, y1, y2, y3, y4⟩ := KC.out w hSw); go_simp; try (with_reducible rfl))
      go_simp
      refine wpT (i := 2) (v := ?vsa2) ?hsa2 hSw ?ksa2
      case hsa2 => (intro w hSw; (obtain ⟨⟨x0, x1, x2, x3, x4⟩, y0, y1, y2, y3, y4⟩ := KC.out w hSw); go_simp; try (with_reducible rfl))
      go_simp
      refine wpT (i := 3) (v := ?vsa3) ?hsa3 hSw ?ksa3
      case hsa3 => (intro w hSw; (obtain ⟨⟨x0, x1, x2, x3, x4⟩, y0, y1, y2, y3, y4⟩ := KC.out w hSw); go_simp; try (with_reducible rfl))
      go_simp
      refine wpT (i := 4) (v := ?vsa4) ?hsa4 hSw ?ksa4
      case hsa4 => (intro w hSw; (obtain ⟨⟨x0, x1, x2, x3, x4⟩, y0, y1, y2, y3, y4⟩ := KC.out w hSw); go_simp; try (with_reducible rfl))
      go_simp
      refine wpT (i := 5) (v := ?vsa5) ?hsa5 hSw ?ksa5
      case hsa5 => (intro w hSw; (obtain ⟨⟨x0, x1, x2, x3, x4⟩, y0, y1, y2, y3, y4⟩ := KC.out w hSw); go_simp; try (with_reducible rfl))
      go_simp
      refine wpT (i := 6) (v := ?vsa6) ?hsa6 hSw ?ksa6
      case hsa6 => (intro w hSw; (obtain ⟨⟨x0, x1, x2, x3, x4⟩, y0, y1, y2, y3, y4⟩ := KC.out w hSw); go_simp; try (with_reducible rfl))
      go_simp
      refine wpT (i := 7) (v := ?vsa7) ?hsa7 hSw ?ksa7
      case hsa7 => (intro w hSw; (obtain ⟨⟨x0, x1, x2, x3, x4⟩, y0, y1, y2, y3, y4⟩ := KC.out w hSw); go_simp; try (with_reducible rfl))
      go_simp
      refine wpAnyH_ready (rs := [8]) (by kernel_rfl) (by simp) ?_
      refine AllReadyH.cons rfl (fun K hK => ?_) AllReadyH.nil
      go_simp
      with_reducible refine (HHD.out _).mono ?_
      rintro e w3 ⟨rfl, hb3⟩
      go_simp
      refine hK.out _ _ (hSw.trans (hb3.mono hSw.size)) (fun hSn => ?_)
      clear hK K hSw
      have hSw := hSn
      clear hSn
      go_simp
      refine wpAnyH_done (by kernel_rfl) ?_ _
      have hby := hb2.trans (hSw.mono hb2.size)
      clear hSw KC HHD
      go_wp2
      go_roundw
      case rel => exact ⟨q + 1, by omega, by go_num, hby⟩
      case measure => simp [intOf]; omega
     ·have e1 : (x.k == 1) = false := by simpa using h1
      clear hkc hhd hd hd2 hba KC HHD
      go_wp2
      go_roundw
      case rel => exact ⟨k + 1, by omega, by go_num, hb2⟩
      case measure => simp [intOf]; omega
    ·have hqn2 : ((q : Int) < (n : Int)) = False := eq_false (by omega)
     go_wp2
     go_roundw
     case rel => exact ⟨k + 1, by omega, by go_num, hb2⟩
     case measure => simp [intOf]; omega
  ·have hkn : ((k : Int) < (n : Int)) = False := eq_false (by omega)
   go_wp2_with fail
   refine (HRR.out _ hbl).mono ?_
   rintro e w3 ⟨rfl, hb3⟩
   have hbz := later_ hbl hb3
   go_wp2
   go_ret
   exact ⟨rfl, hbz⟩
end
section
open It
def rstep (x : It) (r : List It × Bool) (y : It) : List It × Bool :=
 if same x y = true then r else
 let r1 := if !r.2 && less x y then (r.1 ++ [x], true) else r
 (if hides x y then r1.1 else r1.1 ++ [y], r1.2)
theorem rstep_low {x : It} : ∀ (l : List It) (out : List It), (∀ y ∈ l, less y x = true) → l.foldl (rstep x) (out, false) = (out ++ l.filter (fun y => !hides x y), false)
 | [], out, _ => by simp
 | y :: l, out, h => by
  have h1 := h y List.mem_cons_self
  have h2 : less x y = false := by rw [less_iff] at h1; rw [less_no]; omega
  have h3 : same x y = false := by simp [same, h1, h2]
  have e : rstep x (out, false) y = (if hides x y then out else out ++ [y], false) := by simp [rstep, h2, h3]
  rw [List.foldl_cons, e, rstep_low l _ (fun z hz => h z (List.mem_cons_of_mem _ hz)), List.filter_cons]
  cases hides x y <;> simp
theorem rstep_same {x : It} (r : List It × Bool) : ∀ (l : List It), (∀ y ∈ l, same x y = true) → l.foldl (rstep x) r = r
 | [], _ => rfl
 | y :: l, h => by
  have h1 := h y List.mem_cons_self
  rw [List.foldl_cons, show rstep x r y = r by simp [rstep, h1], rstep_same r l (fun z hz => h z (List.mem_cons_of_mem _ hz))]
theorem rstep_high {x : It} : ∀ (l : List It) (out : List It), (∀ y ∈ l, less x y = true) → l.foldl (rstep x) (out, true) = (out ++ l.filter (fun y => !hides x y), true)
 | [], out, _ => by simp
 | y :: l, out, h => by
  have h1 := h y List.mem_cons_self
  have h2 : less y x = false := by rw [less_iff] at h1; rw [less_no]; omega
  have h3 : same x y = false := by simp [same, h1, h2]
  have e : rstep x (out, true) y = (if hides x y then out else out ++ [y], true) := by simp [rstep, h3]
  rw [List.foldl_cons, e, rstep_high l _ (fun z hz => h z (List.mem_cons_of_mem _ hz)), List.filter_cons]
  cases hides x y <;> simp
theorem three {l : List It} (h : Rises l) (x : It) : l = l.filter (fun y => less y x) ++ (l.filter (fun y => same x y) ++ l.filter (fun y => less x y)) := by
 induction l with
 | nil => rfl
 | cons a r ih =>
  obtain ⟨a1, a2⟩ := List.pairwise_cons.1 h
  have ih := ih a2
  cases h1 : less a x with
  | true =>
   have h2 : less x a = false := by rw [less_iff] at h1; rw [less_no]; omega
   have h3 : same x a = false := by simp [same, h1]
   simp only [List.filter_cons, h1, h2, h3, if_true, Bool.false_eq_true, if_false, List.cons_append]
   rw [← ih]
  | false =>
   have hl : r.filter (fun y => less y x) = [] := List.filter_eq_nil_iff.2 fun y hy => by
    have := a1 y hy
    rw [less_iff] at this
    rw [less_no] at h1
    simp only [Bool.not_eq_true, less_no]
    omega
   cases h2 : less x a with
   | true =>
    have h3 : same x a = false := by simp [same, h2]
    have hs : r.filter (fun y => same x y) = [] := List.filter_eq_nil_iff.2 fun y hy => by
     have := a1 y hy
     rw [less_iff] at this h2
     rw [same_iff]
     omega
    rw [hl, hs] at ih
    simp only [List.filter_cons, h1, h2, h3, if_true, Bool.false_eq_true, if_false, hl, hs, List.nil_append]
    exact congrArg _ (by simpa using ih)
   | false =>
    have h3 : same x a = true := by simp [same, h1, h2]
    rw [hl, List.nil_append] at ih
    simp only [List.filter_cons, h1, h2, h3, if_true, Bool.false_eq_true, if_false, hl, List.nil_append, List.cons_append]
    rw [← ih]
theorem radd_fin {l : List It} {x : It} (h : Stt l) (hk : x.ok = true) (hh : hidden l x = false) (hb : beaten l x = false) :
  (if (l.foldl (rstep x) ([], false)).2 = true then (l.foldl (rstep x) ([], false)).1 else (l.foldl (rstep x) ([], false)).1 ++ [x]) = add l x := by
 have hxx : hides x x = false := by rw [hides_no]; omega
 have hadd : add l x = (put l x).filter fun y => !hides x y := by unfold add; simp [hk, hh, hb]
 have e1 : l.foldl (rstep x) ([], false) = (l.filter (fun y => less x y)).foldl (rstep x) ((l.filter (fun y => less y x)).filter (fun y => !hides x y), false) := by
  conv => lhs; rw [three h.rises x]
  rw [List.foldl_append, List.foldl_append, rstep_low _ _ (fun y hy => (List.mem_filter.1 hy).2), rstep_same _ _ (fun y hy => (List.mem_filter.1 hy).2), List.nil_append]
 rw [hadd, e1]
 unfold put
 rw [List.filter_append, List.filter_cons]
 simp only [hxx, Bool.not_false, if_true]
 have hhi : ∀ y ∈ l.filter (fun y => less x y), less x y = true := fun y hy => (List.mem_filter.1 hy).2
 generalize l.filter (fun y => less x y) = L2 at *
 generalize (l.filter (fun y => less y x)).filter (fun y => !hides x y) = L1 at *
 cases L2 with
 | nil => simp
 | cons y r =>
  have h1 := hhi y List.mem_cons_self
  have h2 : less y x = false := by rw [less_iff] at h1; rw [less_no]; omega
  have h3 : same x y = false := by simp [same, h1, h2]
  have e : rstep x (L1, false) y = (if hides x y then L1 ++ [x] else L1 ++ [x] ++ [y], true) := by simp [rstep, h1, h3]
  rw [List.foldl_cons, e, rstep_high r _ (fun z hz => hhi z (List.mem_cons_of_mem _ hz)), List.filter_cons]
  cases hides x y <;> simp
end
section
open Go Go.RowKit Go.Lib
structure RSt (base : Nat) (w : World) (l : List It) (x : It) (k : Nat) (A : Option Addr) (q c : Nat) (pt : Bool) : Prop where
 own : w.ownsRow base 27 5 (.slice A q c) q (itc ((l.take k).foldl (rstep x) ([], false)).1)
 len : q = ((l.take k).foldl (rstep x) ([], false)).1.length
 put : pt = ((l.take k).foldl (rstep x) ([], false)).2
 free : hidden (l.take k) x = false
 best : beaten (l.take k) x = false
theorem rstep_len (x : It) : ∀ (l : List It) (r : List It × Bool), (l.foldl (rstep x) r).1.length ≤ r.1.length + 2 * l.length
 | [], r => by simp
 | y :: l, r => by
  have h1 := rstep_len x l (rstep x r y)
  have h2 : (rstep x r y).1.length ≤ r.1.length + 2 := by
   unfold rstep
   split
   ·omega
   ·simp only
    split <;> split <;> simp
  simp only [List.foldl_cons, List.length_cons]
  omega
theorem fold_take {x : It} {l : List It} {k : Nat} (h : k < l.length) : (l.take (k + 1)).foldl (rstep x) ([], false) = rstep x ((l.take k).foldl (rstep x) ([], false)) l[k] := by
 rw [List.take_succ_eq_append_getElem h, List.foldl_append]
 rfl
theorem hid_take {x : It} {l : List It} {k : Nat} (h : k < l.length) : hidden (l.take (k + 1)) x = (hidden (l.take k) x || It.hides l[k] x) ∧ beaten (l.take (k + 1)) x = (beaten (l.take k) x || (It.same l[k] x && !x.wins l[k])) := by
 unfold hidden beaten
 rw [List.take_succ_eq_append_getElem h, List.any_append, List.any_append]
 simp
theorem hid_off {x : It} {l : List It} {k : Nat} (h : hidden (l.take k) x = true ∨ beaten (l.take k) x = true) : add l x = l := by
 have : hidden l x = true ∨ beaten l x = true := by
  rcases h with h | h
  ·left
   unfold hidden at *
   obtain ⟨t, ht, h2⟩ := List.any_eq_true.1 h
   exact List.any_eq_true.2 ⟨t, List.mem_of_mem_take ht, h2⟩
  ·right
   unfold beaten at *
   obtain ⟨t, ht, h2⟩ := List.any_eq_true.1 h
   exact List.any_eq_true.2 ⟨t, List.mem_of_mem_take ht, h2⟩
 unfold add
 rw [if_pos]
 rcases this with h | h <;> simp [h]
def RaddPost (w : World) (A : Option Addr) (R : List It) (e : Ending) (w' : World) : Prop := ∃ A' k c', e = .returned (.slice A' k c') ∧ k = R.length ∧ Row w'.heap.size w' A' k 5 (itc R) ∧ (A' = A ∨ ∀ a, A' = some a → w.heap.size ≤ a.block ∧ a.block < w'.heap.size) ∧ Below w.heap.size w w'
theorem RaddPost.same {w w' : World} {A : Option Addr} {n c : Nat} {l R : List It} (hr : Row w.heap.size w A n 5 (itc l)) (hb : Below w.heap.size w w') (e : R = l) : RaddPost w A R (.returned (.slice A n c)) w' := ⟨A, n, c, rfl, by rw [e]; exact hr.itlen.symm, by rw [e]; exact (hr.below hb).up hb.size, .inl rfl, hb⟩
theorem RaddPost.own {w w' : World} {B : Nat} {A A' : Option Addr} {q c : Nat} {R L : List It} (h : w'.ownsRow B 27 5 (.slice A' q c) q (itc L)) (hB : w.heap.size ≤ B) (hb : Below w.heap.size w w') (e : R = L) : RaddPost w A R (.returned (.slice A' q c)) w' := by
 subst e
 obtain ⟨A3, c3, hv, hqc, hqm, hlow⟩ := own_form h
 injection hv with e1 e2 e3
 subst e1 e3
 exact ⟨_, _, _, rfl, (Row.own h).itlen.symm, Row.own h, .inr fun a ha => ⟨Nat.le_trans hB (hlow a ha).1, (hlow a ha).2.1⟩, hb⟩
theorem box_at {w : World} {g : Nat} {x : It} (h : BoxO w 27 g x.cells) : w.cell? ⟨g, 0, none⟩ = some (.int .i64 x.s) ∧ w.cell? ⟨g, 1, none⟩ = some (.int .i64 x.k) ∧ w.cell? ⟨g, 2, none⟩ = some (.int .u64 (x.t : Int)) ∧ w.cell? ⟨g, 3, none⟩ = some (.int .u64 (x.v : Int)) ∧ w.cell? ⟨g, 4, none⟩ = some (.int .i64 x.x) := by
 have b0 := h.cell 0
 have b1 := h.cell 1
 have b2 := h.cell 2
 have b3 := h.cell 3
 have b4 := h.cell 4
 simp only [It.cells, gE0, gE1] at b0 b1 b2 b3 b4
 exact ⟨b0, b1, b2, b3, b4⟩
theorem rstep_eq (x y : It) (r : List It × Bool) (h : x.same y = false) : rstep x r y = ((if (!r.2 && x.less y) = true then r.1 ++ [x] else r.1) ++ (if x.hides y = true then [] else [y]), r.2 || (!r.2 && x.less y)) := by
 unfold rstep
 rw [if_neg (by simp [h])]
 cases h1 : r.2 <;> cases h2 : x.less y <;> cases h3 : x.hides y <;> simp [h1]
theorem own_far {W : World} {base : Nat} {e : TypeId} {size n : Nat} {v : Value} {xs : List Value} (h : W.ownsRow base e size v n xs) {g : Nat} (hg : W.heap.size ≤ g) : some g ≠ v.ownBlock := by
 rcases h.2 with ⟨rfl, _⟩ | ⟨g2, cap, cur, rfl, hb, hgb, _⟩
 ·simp [Value.ownBlock]
 ·intro e2
  have h1 := (Array.getElem?_eq_some_iff.1 hgb).1
  simp only [Value.ownBlock, Option.some.injEq] at e2
  omega
theorem radd_any (A : Option Addr) (n c : Nat) (l : List It) (x : It) (w : World) (hn : n ≤ 100000) (hS : Stt l) (hx : x.ok = true) (hr : Row w.heap.size w A n 5 (itc l)) :
  Calls Tryz.prog 53 #[.slice A n c, x.val] w (RaddPost w A (add l x)) := by
 have hnn := hr.itlen
 obtain ⟨i0, hi0, hz0, hz1, hz2⟩ := info_parts info_item
 have hbW := (Below.refl w.heap.size w).alloc (Nat.le_refl _) (.cells #[.int .i64 x.s, .int .i64 x.k, .int .u64 (x.t : Int), .int .u64 (x.v : Int), .int .i64 x.x] 27)
 have hbx : BoxO (w.alloc (.cells #[.int .i64 x.s, .int .i64 x.k, .int .u64 (x.t : Int), .int .u64 (x.v : Int), .int .i64 x.x] 27)) 27 w.heap.size x.cells := BoxO.new w #[.int .i64 x.s, .int .i64 x.k, .int .u64 (x.t : Int), .int .u64 (x.v : Int), .int .i64 x.x] 27
 have HFIN : Hid (∀ L b, (l.foldl (rstep x) ([], false)) = (L, b) → hidden l x = false → beaten l x = false → add l x = if b = true then L else L ++ [x]) := Lib.hid fun L b h h1 h2 => by
  have := radd_fin hS hx h1 h2
  rw [h] at this
  exact this.symm
 have hsame := fun (w' : World) (hb : Below w.heap.size w w') (k : Nat) (hh : hidden (l.take k) x = true ∨ beaten (l.take k) x = true) => RaddPost.same (c := c) hr hb (hid_off hh)
 obtain ⟨R, hR⟩ : ∃ R, R = add l x := ⟨_, rfl⟩
 have HSAME : Hid (∀ w', Below w.heap.size w w' → ∀ k, hidden (l.take k) x = true ∨ beaten (l.take k) x = true → RaddPost w A R (.returned (.slice A n c)) w') := Lib.hid (by rw [hR]; exact hsame)
 rw [← hR] at HFIN ⊢
 have hm0 := fun (y : It) W => rhides_any y x W
 have hm1 := fun (y : It) W => rsame_any x y W
 have hm2 := fun (y : It) W => rwins_any x y W
 have hm3 := fun (y : It) W => rless_any x y W
 have hm4 := fun (y : It) W => rhides_any x y W
 unfold It.val at hm0 hm1 hm2 hm3 hm4 ⊢
 have HC := Lib.hid (And.intro hm0 (And.intro hm1 (And.intro hm2 (And.intro hm3 hm4))))
 have hrW := (hr.below hbW).up hbW.size
 obtain ⟨g, hg⟩ : ∃ g, g = w.heap.size := ⟨_, rfl⟩
 obtain ⟨W, hW⟩ : ∃ W, W = w.alloc (.cells #[.int .i64 x.s, .int .i64 x.k, .int .u64 (x.t : Int), .int .u64 (x.v : Int), .int .i64 x.x] 27) := ⟨_, rfl⟩
 rw [← hW] at hbW hbx hrW
 rw [← hg] at hbx
 have hgs : Hid (w.heap.size + 1 = W.heap.size) := Lib.hid (by rw [hW]; simp)
 have HRW := Lib.hid hrW
 have HBW := Lib.hid hbW
 have HBX := Lib.hid hbx
 clear hR hsame hm0 hm1 hm2 hm3 hm4 hr hbW hbx hrW hS
 go_enter Tryz.func53, Tryz.ntmps53
 go_wp2_with fail
 rw [← hW, ← hg]
 have HWW := Lib.hid (And.intro hW hg)
 clear hW hg
 go_wp2_with fail
 go_loopw [5, 6, 7] (fun s p i wr => ∃ (k q : Nat) (A2 : Option Addr) (c2 : Nat) (pt : Bool), k ≤ n ∧ s = .slice A2 q c2 ∧ p = .bool pt ∧ i = .int .i64 (k : Int) ∧ Hid (RSt W.heap.size wr l x k A2 q c2 pt) ∧ Below W.heap.size W wr) (fun _ _ i _ => n - (intOf i).toNat)
 case atStart => exact ⟨0, 0, none, 0, false, Nat.zero_le _, rfl, rfl, rfl, Lib.hid ⟨World.ownsRow_nil _ _ _ _, rfl, rfl, rfl, rfl⟩, Below.refl _ _⟩
 case round =>
  obtain ⟨k, q, A2, c2, pt, hk, rfl, rfl, rfl, HQ, hbl⟩ := hrel
  by_cases hlt : k < n
  ·obtain ⟨p, hl, rfl, hbk, c0, c1, c2', c3, c4⟩ := (HRW.out.below hbl).it hlt
   have hft := fold_take (x := x) hl
   have hht := hid_take (x := x) hl
   have hql : q ≤ 200000 := by
    have h1 := rstep_len x (l.take k) ([], false)
    rw [← HQ.out.len, List.length_take] at h1
    simp only [List.length_nil] at h1
    omega
   generalize l[k] = y at *
   obtain ⟨r, hr⟩ : ∃ r, r = (l.take k).foldl (rstep x) ([], false) := ⟨_, rfl⟩
   obtain ⟨hown, hlen, hput, hfree, hbest⟩ := HQ.out
   rw [← hr] at hft hown hlen hput
   rw [hfree, hbest, Bool.false_or, Bool.false_or] at hht
   have HT := Lib.hid (And.intro hft hht)
   have HOWN := Lib.hid hown
   have HLEN := Lib.hid hlen
   have HPUT := Lib.hid hput
   have hwk : IntKind.i64.wrap (k : Int) = (k : Int) := IntWalk.i64_in _ (by omega)
   have hyb : BoxO (wr.alloc (.cells #[.int .i64 y.s, .int .i64 y.k, .int .u64 (y.t : Int), .int .u64 (y.v : Int), .int .i64 y.x] 27)) 27 wr.heap.size y.cells := BoxO.new wr #[.int .i64 y.s, .int .i64 y.k, .int .u64 (y.t : Int), .int .u64 (y.v : Int), .int .i64 y.x] 27
   have hxb := (HBX.out.below hbl).alloc (.cells #[.int .i64 y.s, .int .i64 y.k, .int .u64 (y.t : Int), .int .u64 (y.v : Int), .int .i64 y.x] 27)
   have hb1 := (Below.refl wr.heap.size wr).alloc (Nat.le_refl _) (.cells #[.int .i64 y.s, .int .i64 y.k, .int .u64 (y.t : Int), .int .u64 (y.v : Int), .int .i64 y.x] 27)
   obtain ⟨V, hV⟩ : ∃ V, V = wr.alloc (.cells #[.int .i64 y.s, .int .i64 y.k, .int .u64 (y.t : Int), .int .u64 (y.v : Int), .int .i64 y.x] 27) := ⟨_, rfl⟩
   have hbV := later_ hbl hb1
   have hown1 := own_below hown hb1
   have hfar := own_far hown (Nat.le_refl _)
   rw [← hV] at hyb hxb hbV hown1
   obtain ⟨gy, hgy⟩ : ∃ gy, gy = wr.heap.size := ⟨_, rfl⟩
   rw [← hgy] at hyb hfar
   have HKB := Lib.hid (fun w' (hb : Below V.heap.size V w') => And.intro (box_at (hxb.below hb)) (box_at (hyb.below hb)))
   have HYB := Lib.hid hyb
   have HFAR := Lib.hid hfar
   have HO1 := Lib.hid hown1
   have HBV := Lib.hid hbV
   obtain ⟨x0, x1, x2, x3, x4⟩ := box_at hxb
   rw [hV] at x0 x1 x2 x3 x4
   clear hr hft hht hown hlen hput hfree hbest hyb hxb hb1 hbV hown1 hfar HQ
   go_wp2_with fail
   rw [← hV, ← hgy]
   have HVV := Lib.hid (And.intro hV hgy)
   clear hV hgy x0 x1 x2 x3 x4 c0 c1 c2' c3 c4
   refine (HC.out.1 y V).mono ?_
   rintro e w1 ⟨rfl, hb1⟩
   obtain ⟨⟨x0, x1, x2, x3, x4⟩, y0, y1, y2, y3, y4⟩ := HKB.out w1 hb1
   cases hh0 : y.hides x with
   | true =>
    have HZ := Lib.hid (HSAME.out w1 (HBW.out.trans ((later_ HBV.out hb1).mono HBW.out.size)) (k + 1) (.inl (by rw [HT.out.2.1]; exact hh0)))
    clear hh0 hb1
    go_wp2
    go_ret
    exact HZ.out
   | false =>
   have HT1 : Hid (hidden (l.take (k + 1)) x = false) := Lib.hid (by rw [HT.out.2.1]; exact hh0)
   clear hh0
   go_wp2_with fail
   refine (HC.out.2.1 y w1).mono ?_
   rintro e w2 ⟨rfl, hb2⟩
   have hb2 := later_ hb1 hb2
   clear x0 x1 x2 x3 x4 y0 y1 y2 y3 y4 hb1
   obtain ⟨⟨x0, x1, x2, x3, x4⟩, y0, y1, y2, y3, y4⟩ := HKB.out w2 hb2
   cases hs : x.same y with
   | true =>
    have HS := Lib.hid hs
    clear hs
    go_wp2_with fail
    refine (HC.out.2.2.1 y w2).mono ?_
    rintro e w3 ⟨rfl, hb3⟩
    have hb3 := later_ hb2 hb3
    cases hwn : x.wins y with
    | false =>
     have HZ := Lib.hid (HSAME.out w3 (HBW.out.trans ((later_ HBV.out hb3).mono HBW.out.size)) (k + 1) (.inr (by rw [HT.out.2.2, hwn, Bool.not_false, Bool.and_true]; exact (show y.same x = true by rw [It.same_iff]; have := It.same_iff.1 HS.out; omega))))
     clear hwn hb3 hb2
     go_wp2
     go_ret
     exact HZ.out
    | true =>
     have HR1 : Hid (RSt W.heap.size w3 l x (k + 1) A2 q c2 pt) := Lib.hid (by
      have e1 : rstep x r y = r := by unfold rstep; rw [if_pos HS.out]
      refine ⟨?_, ?_, ?_, HT1.out, ?_⟩
      ·rw [HT.out.1, e1]; exact own_below HO1.out hb3
      ·rw [HT.out.1, e1]; exact HLEN.out
      ·rw [HT.out.1, e1]; exact HPUT.out
      ·rw [HT.out.2.2, hwn]; simp)
     have hbz := later_ HBV.out hb3
     clear hwn hb3 hb2
     go_wp2
     go_roundw
     case rel => exact ⟨k + 1, q, A2, c2, pt, by omega, rfl, rfl, by go_num, HR1, hbz⟩
     case measure => simp [intOf]; omega
   | false =>
   have HS := Lib.hid hs
   have HT2 : Hid (beaten (l.take (k + 1)) x = false) := Lib.hid (by rw [HT.out.2.2]; rw [show y.same x = false by cases h : y.same x with
    | false => rfl
    | true => rw [It.same_iff] at h; have : x.same y = true := by { rw [It.same_iff]; omega }; rw [hs] at this; cases this]; rfl)
   clear hs
   go_upto_region 12 with (fail)
   go_cut [37] (fun v wx => ∃ b : Bool, v = .bool b ∧ Hid (b = (!pt && x.less y)) ∧ Below V.heap.size V wx)
   case first =>
    cases pt with
    | true =>
     go_wp2_with fail
     go_meet
     exact ⟨false, rfl, Lib.hid rfl, hb2⟩
    | false =>
     go_wp2_with fail
     refine (HC.out.2.2.2.1 y w2).mono ?_
     rintro e w3 ⟨rfl, hb3⟩
     have hb3 := later_ hb2 hb3
     clear x0 x1 x2 x3 x4 y0 y1 y2 y3 y4 hb2
     go_wp2_with fail
     go_meet
     exact ⟨_, rfl, Lib.hid rfl, hb3⟩
   case rest =>
    obtain ⟨b, rfl, HBB, hb4⟩ := hcut
    clear x0 x1 x2 x3 x4 y0 y1 y2 y3 y4 hb2
    obtain ⟨⟨x0, x1, x2, x3, x4⟩, y0, y1, y2, y3, y4⟩ := HKB.out wc hb4
    have HX4 := Lib.hid hb4
    go_upto_if 37 with (fail)
    go_cut [5, 6] (fun s p wx => ∃ (q3 : Nat) (A3 : Option Addr) (c3 : Nat), s = .slice A3 q3 c3 ∧ p = .bool (pt || b) ∧ q3 ≤ 200001 ∧ Hid (wx.ownsRow W.heap.size 27 5 (.slice A3 q3 c3) q3 (itc (if b = true then r.1 ++ [x] else r.1)) ∧ q3 = (if b = true then r.1 ++ [x] else r.1).length) ∧ Hid (BoxO wx 27 gy y.cells) ∧ Below W.heap.size W wx)
    case first =>
     cases b with
     | false =>
      go_wp2_with fail
      go_meet
      exact ⟨q, A2, c2, rfl, by simp, by omega, Lib.hid ⟨by simpa using own_below HO1.out hb4, by simpa using HLEN.out⟩, Lib.hid (HYB.out.below hb4), later_ HBV.out hb4⟩
     | true =>
      have hbA := (Below.refl wc.heap.size wc).alloc (Nat.le_refl _) (.cells #[.int .i64 x.s, .int .i64 x.k, .int .u64 (x.t : Int), .int .u64 (x.v : Int), .int .i64 x.x] 27)
      have HR := Lib.hid (irow_box (show BoxO (wc.alloc (.cells #[.int .i64 x.s, .int .i64 x.k, .int .u64 (x.t : Int), .int .u64 (x.v : Int), .int .i64 x.x] 27)) 27 wc.heap.size x.cells from BoxO.new wc #[.int .i64 x.s, .int .i64 x.k, .int .u64 (x.t : Int), .int .u64 (x.v : Int), .int .i64 x.x] 27))
      have HO := Lib.hid (own_below (own_below HO1.out hb4) hbA)
      have HB := Lib.hid (later_ (later_ HBV.out hb4) hbA)
      have HX := Lib.hid (show itc r.1 ++ x.cells = itc (r.1 ++ [x]) by rw [itc_append]; simp [itc])
      have HY := Lib.hid ((HYB.out.below hb4).alloc (.cells #[.int .i64 x.s, .int .i64 x.k, .int .u64 (x.t : Int), .int .u64 (x.v : Int), .int .i64 x.x] 27))
      have HQ1 := Lib.hid (show q + 1 = (r.1 ++ [x]).length by rw [List.length_append, ← HLEN.out]; rfl)
      clear hbA hb4
      go_wp2_with (at_builtin; refine stop_in ?_)
      refine stop_out (wpList_app rfl (.tmp 38) (.tmp 40) _ rfl W.heap.size 27 i0 _ 5 40 Tryz.underlying24 hi0 hz0 hz1 hz2 rfl (by omega) W HB.out HB.out.size _ q (itc r.1) rfl HO.out (wc.alloc (.cells #[.int .i64 x.s, .int .i64 x.k, .int .u64 (x.t : Int), .int .u64 (x.v : Int), .int .i64 x.x] 27)).heap.size _ 1 1 x.cells rfl HR.out (fun v hv => itc_one [x] v (by simpa [itc] using hv)) (q + 1) _ rfl HX.out (by unfold maxLen; omega) (by omega) ?_)
      intro A3 c3 w5 h1 h2 h3 h4 h5
      have H5 := Lib.hid (And.intro h1 HQ1.out)
      have H6 := Lib.hid (HY.out.igrown h3 HFAR.out)
      clear h1 h3 HQ1 HX HR HO HB HY
      go_wp2
      go_meet
      exact ⟨q + 1, A3, c3, rfl, by simp, by omega, Lib.hid (by simpa using H5.out), H6, h2⟩
    case rest =>
     obtain ⟨q3, A3, c3, rfl, rfl, hq3, H5, H6, hb5⟩ := hcut
     clear x0 x1 x2 x3 x4 y0 y1 y2 y3 y4 hb4
     have HEQ := Lib.hid (rstep_eq x y r HS.out)
     have hL : (if (!r.2 && x.less y) = true then r.1 ++ [x] else r.1) = (if b = true then r.1 ++ [x] else r.1) := by rw [HBB.out, ← HPUT.out]
     rw [hL, ← HPUT.out, ← HBB.out] at HEQ
     have HPT : Hid ((pt || b) = (rstep x r y).2) := Lib.hid (by rw [HEQ.out])
     have HL1 : Hid ((if b = true then r.1 ++ [x] else r.1) ++ (if x.hides y = true then [] else [y]) = (rstep x r y).1) := Lib.hid (by rw [HEQ.out])
     generalize (if b = true then r.1 ++ [x] else r.1) = L1 at *
     generalize (pt || b) = pt1 at *
     clear hL HEQ
     obtain ⟨x0, x1, x2, x3, x4⟩ := box_at (HBX.out.below hb5)
     obtain ⟨y0, y1, y2, y3, y4⟩ := box_at H6.out
     go_wp2_with fail
     refine (HC.out.2.2.2.2 y wc).mono ?_
     rintro e w6 ⟨rfl, hb6⟩
     have hbz := later_ hb5 hb6
     clear x0 x1 x2 x3 x4 y0 y1 y2 y3 y4
     cases hh : x.hides y with
     | true =>
      have HR1 : Hid (RSt W.heap.size w6 l x (k + 1) A3 q3 c3 pt1) := Lib.hid (by
       have e1 := HL1.out
       rw [hh, if_pos rfl, List.append_nil] at e1
       refine ⟨?_, ?_, ?_, HT1.out, HT2.out⟩
       ·rw [HT.out.1, ← e1]; exact own_below H5.out.1 hb6
       ·rw [HT.out.1, ← e1]; exact H5.out.2
       ·rw [HT.out.1]; exact HPT.out)
      clear hh hb6
      go_wp2
      go_roundw
      case rel => exact ⟨k + 1, q3, A3, c3, pt1, by omega, rfl, rfl, by go_num, HR1, hbz⟩
      case measure => simp [intOf]; omega
     | false =>
      obtain ⟨y0, y1, y2, y3, y4⟩ := box_at (H6.out.below hb6)
      have hbA := (Below.refl w6.heap.size w6).alloc (Nat.le_refl _) (.cells #[.int .i64 y.s, .int .i64 y.k, .int .u64 (y.t : Int), .int .u64 (y.v : Int), .int .i64 y.x] 27)
      have HR := Lib.hid (irow_box (show BoxO (w6.alloc (.cells #[.int .i64 y.s, .int .i64 y.k, .int .u64 (y.t : Int), .int .u64 (y.v : Int), .int .i64 y.x] 27)) 27 w6.heap.size y.cells from BoxO.new w6 #[.int .i64 y.s, .int .i64 y.k, .int .u64 (y.t : Int), .int .u64 (y.v : Int), .int .i64 y.x] 27))
      have HO := Lib.hid (own_below (own_below H5.out.1 hb6) hbA)
      have HB := Lib.hid (later_ hbz hbA)
      have HX := Lib.hid (show itc L1 ++ y.cells = itc (L1 ++ [y]) by rw [itc_append]; simp [itc])
      have e1 := HL1.out
      rw [hh, if_neg (by simp)] at e1
      have HE1 := Lib.hid e1
      have HQ1 := Lib.hid (show q3 + 1 = (L1 ++ [y]).length by rw [List.length_append, ← H5.out.2]; rfl)
      clear hbA hb6 e1 hh hbz
      go_wp2_with (at_builtin; refine stop_in ?_)
      refine stop_out (wpList_app rfl (.tmp 46) (.tmp 48) _ rfl W.heap.size 27 i0 _ 5 40 Tryz.underlying24 hi0 hz0 hz1 hz2 rfl (by omega) W HB.out HB.out.size _ q3 (itc L1) rfl HO.out (w6.alloc (.cells #[.int .i64 y.s, .int .i64 y.k, .int .u64 (y.t : Int), .int .u64 (y.v : Int), .int .i64 y.x] 27)).heap.size _ 1 1 y.cells rfl HR.out (fun v hv => itc_one [y] v (by simpa [itc] using hv)) (q3 + 1) _ rfl HX.out (by unfold maxLen; omega) (by omega) ?_)
      intro A4 c4 w7 h1 h2 h3 h4 h5
      have HR1 : Hid (RSt W.heap.size w7 l x (k + 1) A4 (q3 + 1) c4 pt1) := Lib.hid (by
       refine ⟨?_, ?_, ?_, HT1.out, HT2.out⟩
       ·rw [HT.out.1, ← HE1.out]; exact h1
       ·rw [HT.out.1, ← HE1.out]; exact HQ1.out
       ·rw [HT.out.1]; exact HPT.out)
      clear h1 h3 HQ1 HX HR HO HB y0 y1 y2 y3 y4
      go_wp2
      go_roundw
      case rel => exact ⟨k + 1, q3 + 1, A4, c4, pt1, by omega, rfl, rfl, by go_num, HR1, h2⟩
      case measure => simp [intOf]; omega
  ·have hall : l.take k = l := List.take_of_length_le (by omega)
   obtain ⟨hown, hlen, hput, hfree, hbest⟩ := HQ.out
   rw [hall] at hown hlen hput hfree hbest
   have hfin := HFIN.out _ _ rfl hfree hbest
   rw [← hput] at hfin
   have hql : q ≤ 200000 := by
    have h1 := rstep_len x l ([], false)
    rw [← hlen] at h1
    simp only [List.length_nil] at h1
    omega
   generalize (l.foldl (rstep x) ([], false)).1 = L1 at *
   have hWg := HWW.out.1
   have hsz := hgs.out
   cases pt with
   | true =>
    rw [if_pos rfl] at hfin
    have HZ := Lib.hid (RaddPost.own (A := A) hown (by omega) (HBW.out.trans (hbl.mono HBW.out.size)) hfin)
    clear hown hlen hput hfree hbest hfin hall hWg hsz HQ
    go_wp2
    go_ret
    exact HZ.out
   | false =>
    rw [if_neg (by simp)] at hfin
    obtain ⟨x0, x1, x2, x3, x4⟩ := box_at (HBX.out.below hbl)
    have hbA := (Below.refl wr.heap.size wr).alloc (Nat.le_refl _) (.cells #[.int .i64 x.s, .int .i64 x.k, .int .u64 (x.t : Int), .int .u64 (x.v : Int), .int .i64 x.x] 27)
    have HR := Lib.hid (irow_box (show BoxO (wr.alloc (.cells #[.int .i64 x.s, .int .i64 x.k, .int .u64 (x.t : Int), .int .u64 (x.v : Int), .int .i64 x.x] 27)) 27 wr.heap.size x.cells from BoxO.new wr #[.int .i64 x.s, .int .i64 x.k, .int .u64 (x.t : Int), .int .u64 (x.v : Int), .int .i64 x.x] 27))
    have HO := Lib.hid (own_below hown hbA)
    have HB := Lib.hid (later_ hbl hbA)
    have HX := Lib.hid (show itc L1 ++ x.cells = itc (L1 ++ [x]) by rw [itc_append]; simp [itc])
    have HF := Lib.hid hfin
    have hle : w.heap.size ≤ W.heap.size := by omega
    clear hown hlen hput hfree hbest hfin hall hWg hsz HQ hbA
    go_wp2_with (at_builtin; refine stop_in ?_)
    refine stop_out (wpList_app rfl (.tmp 52) (.tmp 54) _ rfl W.heap.size 27 i0 _ 5 40 Tryz.underlying24 hi0 hz0 hz1 hz2 rfl (by omega) W HB.out HB.out.size _ q (itc L1) rfl HO.out (wr.alloc (.cells #[.int .i64 x.s, .int .i64 x.k, .int .u64 (x.t : Int), .int .u64 (x.v : Int), .int .i64 x.x] 27)).heap.size _ 1 1 x.cells rfl HR.out (fun v hv => itc_one [x] v (by simpa [itc] using hv)) (q + 1) _ rfl HX.out (by unfold maxLen; omega) (by omega) ?_)
    intro A3 c3 w5 h1 h2 h3 h4 h5
    have HZ := Lib.hid (RaddPost.own (A := A) h1 hle (HBW.out.trans (h2.mono HBW.out.size)) HF.out)
    clear h1 h2 h3 HR HO HB HX x0 x1 x2 x3 x4
    go_wp2
    go_ret
    exact HZ.out
end
section
open Go Go.RowKit Go.Lib
def okJoins (a b : List It) : List It := b.foldl (fun l x => if x.ok = true then add l x else l) a
theorem okJoins_eq (b : List It) : ∀ a : List It, okJoins a b = joins a b := by
 unfold okJoins joins
 induction b with
 | nil => intro a; rfl
 | cons x b ih =>
  intro a
  rw [List.foldl_cons, List.foldl_cons, ih]
  cases hx : x.ok with
  | true => rw [if_pos rfl]
  | false =>
   rw [if_neg (by simp)]
   have : add a x = a := by unfold add; simp [hx]
   rw [this]
theorem rjoin_any (A : Option Addr) (n c : Nat) (a : List It) (B : Option Addr) (m d : Nat) (b : List It) (w : World) (hsz : n + m ≤ 90000) (hS : Stt a) (ra : Row w.heap.size w A n 5 (itc a)) (rb : Row w.heap.size w B m 5 (itc b)) :
  Calls Tryz.prog 18 #[.slice A n c, .slice B m d] w (RaddPost w A (joins a b)) := by
 have hna := ra.itlen
 have hmb := rb.itlen
 have HOK := Lib.hid (rstate_any A n c a w (by omega) hS ra)
 obtain ⟨R, hR⟩ : ∃ R, R = joins a b := ⟨_, rfl⟩
 rw [← hR]
 have HR := Lib.hid hR
 have HS := Lib.hid hS
 clear hR hS
 go_enter Tryz.func18, Tryz.ntmps18
 go_wp2_with fail
 refine HOK.out.mono ?_
 rintro e w1 ⟨rfl, hb1⟩
 have ra1 := (ra.below hb1).up hb1.size
 go_wp2_with fail
 go_loopw [5, 6] (fun v i wr => ∃ (k q : Nat) (A2 : Option Addr) (c2 : Nat), k ≤ m ∧ v = .slice A2 q c2 ∧ i = .int .i64 (k : Int) ∧ Hid (RaddPost w A (joins a (b.take k)) (.returned (.slice A2 q c2)) wr) ∧ Below w.heap.size w wr) (fun _ i _ => m - (intOf i).toNat)
 case atStart => exact ⟨0, n, A, c, Nat.zero_le _, rfl, rfl, Lib.hid ⟨A, n, c, rfl, hna.symm, ra1, .inl rfl, hb1⟩, hb1⟩
 case round =>
  obtain ⟨k, q, A2, c2, hk, rfl, rfl, HQ, hbl⟩ := hrel
  clear HOK ra1 hb1
  by_cases hlt : k < m
  ·obtain ⟨p, hl, rfl, hbk, hd⟩ := (rb.below hbl).it hlt
   have hjt := joins_take (a := a) hl
   have hst := (joins_stt (b.take k) HS.out).1
   have hjl := joins_len (b.take k) a
   rw [List.length_take] at hjl
   obtain ⟨A3, q3, c3, hv, hq, hrow, hA, _⟩ := HQ.out
   injection hv with hv
   injection hv with e1 e2 e3
   subst e1 e2 e3
   have hok := fun W => rok_any b[k] W
   have hadd := fun W (hb : Below wr.heap.size wr W) (hk : (b[k]).ok = true) => radd_any A2 q c2 (joins a (b.take k)) b[k] W (by omega) hst hk ((hrow.below hb).up hb.size)
   rw [← hjt] at hadd
   have hsk : (b[k]).ok = false → joins a (b.take (k + 1)) = joins a (b.take k) := fun h => by rw [hjt]; unfold add; simp [h]
   have hkc := fun w' (hb : Below wr.heap.size wr w') => (show w'.cell? (p.add (k * 5)) = some (.int .i64 b[k].s) ∧ w'.cell? ⟨(p.add (k * 5)).block, (p.add (k * 5)).off + 1, none⟩ = some (.int .i64 b[k].k) ∧ w'.cell? ⟨(p.add (k * 5)).block, (p.add (k * 5)).off + 2, none⟩ = some (.int .u64 (b[k].t : Int)) ∧ w'.cell? ⟨(p.add (k * 5)).block, (p.add (k * 5)).off + 3, none⟩ = some (.int .u64 (b[k].v : Int)) ∧ w'.cell? ⟨(p.add (k * 5)).block, (p.add (k * 5)).off + 4, none⟩ = some (.int .i64 b[k].x) from by
    have h1 := hd.below (B := wr.heap.size) (w' := w') (Nat.lt_of_lt_of_le hbk hbl.size) hb
    exact ⟨h1.c0, h1.c1, h1.c2, h1.c3, h1.c4⟩)
   generalize b[k] = x at *
   unfold It.val at hok hadd
   have KC := Lib.hid hkc
   have HK := Lib.hid hok
   have HAD := Lib.hid hadd
   have HSK := Lib.hid hsk
   have HROW := Lib.hid (And.intro hq (And.intro hrow hA))
   have hwk : IntKind.i64.wrap (k : Int) = (k : Int) := IntWalk.i64_in _ (by omega)
   obtain ⟨c0, c1, c2', c3, c4⟩ := KC.out wr (Below.refl _ _)
   clear hkc hok hadd hsk hd hjt hst hjl hq hrow hA HQ
   go_wp2_with fail
   refine (HK.out wr).mono ?_
   rintro e w2 ⟨rfl, hb2⟩
   clear c0 c1 c2' c3 c4
   cases hx : x.ok with
   | false =>
    have hbz := later_ hbl hb2
    have HZ : Hid (RaddPost w A (joins a (b.take (k + 1))) (.returned (.slice A2 q c2)) w2) := Lib.hid ⟨A2, q, c2, rfl, by rw [HSK.out hx]; exact HROW.out.1, by rw [HSK.out hx]; exact (HROW.out.2.1.below hb2).up hb2.size, HROW.out.2.2.imp (fun z => z) (fun z a ha => ⟨(z a ha).1, Nat.lt_of_lt_of_le (z a ha).2 hb2.size⟩), hbz⟩
    clear hb2 hx
    go_wp2
    go_roundw
    case rel => exact ⟨k + 1, q, A2, c2, by omega, rfl, by go_num, HZ, hbz⟩
    case measure => simp [intOf]; omega
   | true =>
    obtain ⟨c0, c1, c2', c3, c4⟩ := KC.out w2 hb2
    have HA2 := Lib.hid (HAD.out w2 hb2 hx)
    have HB9 := Lib.hid hb2
    have hbz := later_ hbl hb2
    clear hx hb2
    go_wp2_with fail
    refine HA2.out.mono ?_
    rintro e w3 ⟨A4, q4, c4', rfl, hq4, hr4, hA4, hb4⟩
    have hbz3 := later_ hbz hb4
    have HZ : Hid (RaddPost w A (joins a (b.take (k + 1))) (.returned (.slice A4 q4 c4')) w3) := Lib.hid ⟨A4, q4, c4', rfl, hq4, hr4, by
     rcases hA4 with rfl | h
     ·exact HROW.out.2.2.imp (fun z => z) (fun z a ha => ⟨(z a ha).1, Nat.lt_of_lt_of_le (Nat.lt_of_lt_of_le (z a ha).2 HB9.out.size) hb4.size⟩)
     ·exact .inr fun a ha => ⟨Nat.le_trans hbz.size (h a ha).1, (h a ha).2⟩, hbz3⟩
    clear hb4 hq4 hr4 hA4 c0 c1 c2' c3 c4
    go_wp2
    go_roundw
    case rel => exact ⟨k + 1, q4, A4, c4', by omega, rfl, by go_num, HZ, hbz3⟩
    case measure => simp [intOf]; omega
  ·have hall : joins a (b.take k) = R := by rw [List.take_of_length_le (by omega), HR.out]
   have hz := HQ.out
   rw [hall] at hz
   have HZ := Lib.hid hz
   clear hz hall HQ
   go_wp2
   go_ret
   exact HZ.out
end
section
open Go Go.RowKit Go.Lib
theorem rupto_any (A : Option Addr) (n c : Nat) (l : List It) (v : Nat) (w : World) (hn : n ≤ 1000000) (hr : Row w.heap.size w A n 5 (itc l)) :
  Calls Tryz.prog 23 #[.slice A n c, .int .u64 (v : Int)] w (RefPost w (upto l v)) := by
 have hnn := hr.itlen
 obtain ⟨i0, hi0, hz0, hz1, hz2⟩ := info_parts info_item
 obtain ⟨P, hP⟩ : ∃ P : It → Bool, P = fun y => decide (y.v ≤ v) := ⟨_, rfl⟩
 have HP := Lib.hid (fun y => congrFun hP y)
 unfold upto
 rw [← hP]
 clear hP
 go_enter Tryz.func23, Tryz.ntmps23
 go_wp2
 go_loopw [5, 6] (fun s i wr => ∃ (k q : Nat) (A2 : Option Addr) (c2 : Nat), k ≤ n ∧ s = .slice A2 q c2 ∧ i = .int .i64 (k : Int) ∧ Hid (q = ((l.take k).filter P).length ∧ wr.ownsRow w.heap.size 27 5 (.slice A2 q c2) q (itc ((l.take k).filter P))) ∧ Below w.heap.size w wr) (fun _ i _ => n - (intOf i).toNat)
 case atStart => exact ⟨0, 0, none, 0, Nat.zero_le _, rfl, rfl, Lib.hid ⟨rfl, World.ownsRow_nil _ _ _ _⟩, Below.refl _ _⟩
 case round =>
  obtain ⟨k, q, A2, c2, hk, rfl, rfl, HQ, hbl⟩ := hrel
  by_cases hlt : k < n
  ·obtain ⟨p, hl, rfl, hbk, c0, c1, c2', c3, c4⟩ := (hr.below hbl).it hlt
   have hft := filt_take (P := P) hl
   have hql : q ≤ 1000000 := by
    have h1 := HQ.out.1
    have h2 := List.length_filter_le P (l.take k)
    rw [List.length_take] at h2
    omega
   generalize l[k] = x at *
   have hb2 := HP.out x
   have hwk : IntKind.i64.wrap (k : Int) = (k : Int) := IntWalk.i64_in _ (by omega)
   by_cases hT : (x.v : Int) ≤ (v : Int)
   ·rw [if_pos (by rw [hb2]; simpa using hT)] at hft
    have hvb : BoxO (wr.alloc (.cells #[.int .i64 x.s, .int .i64 x.k, .int .u64 (x.t : Int), .int .u64 (x.v : Int), .int .i64 x.x] 27)) 27 wr.heap.size x.cells := BoxO.new wr #[.int .i64 x.s, .int .i64 x.k, .int .u64 (x.t : Int), .int .u64 (x.v : Int), .int .i64 x.x] 27
    have hbA := (Below.refl wr.heap.size wr).alloc (Nat.le_refl _) (.cells #[.int .i64 x.s, .int .i64 x.k, .int .u64 (x.t : Int), .int .u64 (x.v : Int), .int .i64 x.x] 27)
    have HR := Lib.hid (irow_box hvb)
    have HO := Lib.hid (own_below HQ.out.2 hbA)
    have HB := Lib.hid (later_ hbl hbA)
    have HX := Lib.hid (show itc ((l.take k).filter P) ++ x.cells = itc ((l.take (k + 1)).filter P) by rw [hft, itc_append]; simp [itc])
    have HQ1 := Lib.hid (show q + 1 = ((l.take (k + 1)).filter P).length by rw [hft, List.length_append, ← HQ.out.1]; rfl)
    clear hft HQ hvb hbA hb2
    go_wp2_with (at_builtin; refine stop_in ?_)
    refine stop_out (wpList_app rfl (.tmp 20) (.tmp 25) _ rfl w.heap.size 27 i0 _ 5 40 Tryz.underlying24 hi0 hz0 hz1 hz2 rfl (by omega) w HB.out HB.out.size _ q (itc ((l.take k).filter P)) rfl HO.out (wr.alloc (.cells #[.int .i64 x.s, .int .i64 x.k, .int .u64 (x.t : Int), .int .u64 (x.v : Int), .int .i64 x.x] 27)).heap.size _ 1 1 x.cells rfl HR.out (fun v hv => itc_one [x] v (by simpa [itc] using hv)) (q + 1) _ rfl HX.out (by unfold maxLen; omega) (by omega) ?_)
    intro A3 c3 w5 h1 h2 h3 h4 h5
    have H5 := Lib.hid (And.intro HQ1.out h1)
    clear h1 h3 HQ1 HX HR HO HB
    go_wp2
    go_roundw
    case rel => exact ⟨k + 1, q + 1, A3, c3, by omega, rfl, by go_num, H5.out, h2⟩
    case measure => simp [intOf]; omega
   ·rw [if_neg (by rw [hb2]; simpa using hT), List.append_nil] at hft
    have H3 := Lib.hid (show q = ((l.take (k + 1)).filter P).length ∧ wr.ownsRow w.heap.size 27 5 (.slice A2 q c2) q (itc ((l.take (k + 1)).filter P)) by rw [hft]; exact HQ.out)
    clear hft HQ hb2
    go_wp2
    go_roundw
    case rel => exact ⟨k + 1, q, A2, c2, by omega, rfl, by go_num, H3.out, hbl⟩
    case measure => simp [intOf]; omega
  ·have hall : l.take k = l := List.take_of_length_le (by omega)
   have hq := HQ.out
   rw [hall] at hq
   obtain ⟨A3, c3, hv, hqc, hqm, hlow⟩ := own_form hq.2
   injection hv with e1 e2 e3
   subst e1 e3
   have HFF := Lib.hid (And.intro hq.1 (show Its w.heap.size wr A2 q c2 (l.filter P) from ⟨Row.own hq.2, hqc, hqm, fun p hp => (hlow p hp).1⟩))
   clear hq hall hlow hqc hqm HQ
   go_wp2
   go_ret
   exact ⟨A2, q, c2, rfl, HFF.out.1, HFF.out.2, hbl⟩
end
section
open Go Go.RowKit Go.Lib Go.Shelf
variable {w w0 w1 w2 : World} {X X1 X2 : Dw} {S S1 S2 : Sd} {Y Y1 Y2 : Yw} {V V1 V2 : Sv} {nb now grace : Nat} {ni : Int}
structure NdW (w0 w : World) (X : Dw) (S : Sd) (Y : Yw) (V : Sv) (nb : Nat) (ni : Int) (now grace : Nat) : Prop where
 at_ : NdAt w X S Y V nb ni now grace
 low : ∀ g ∈ XY X Y, w0.heap.size ≤ g
 bel : Below w0.heap.size w0 w
theorem NdW.below (h : NdW w0 w X S Y V nb ni now grace) (hb : Below w.heap.size w w1) : NdW w0 w1 X S Y V nb ni now grace := ⟨h.at_.below hb, h.low, later_ h.bel hb⟩
theorem NdW.turn (h : NdW w0 w X S Y V nb ni now grace) (hn : NdAt w1 X1 S1 Y1 V1 nb ni now grace) (c : Chg (XY X Y) w w1) (f : ∀ g ∈ XY X1 Y1, g ∈ XY X Y ∨ w.heap.size ≤ g) : NdW w0 w1 X1 S1 Y1 V1 nb ni now grace :=
 ⟨hn, fun g hg => (f g hg).elim (h.low g) (Nat.le_trans h.bel.size), h.bel.trans (c.below h.bel.size h.low)⟩
theorem dm_nw {q : Int} (hq : q ≤ 1099511627776) (he : Env w) (hd : DK w1 X (Sd.new q)) (hb : Below w.heap.size w w1) (hf : ∀ g ∈ X.foot, w.heap.size ≤ g) : Dm w1 X (Sd.new q) :=
 ⟨hd, Sd.new_wf q hq, he.below hb, fun g hg => Nat.le_trans he.base (hf g hg)⟩
theorem nborn_any {q : Int} (h1 : 500000 ≤ q) (h2 : q ≤ 1099511627776) (he : Env w) (hd : DK w1 X (Sd.new q)) (hb : Below w.heap.size w w1) (hf : ∀ g ∈ X.foot, w.heap.size ≤ g) (ni : Int) (grace : Nat) (hni : 0 ≤ ni ∧ ni < 7) (hgr : grace ≤ 1099511627776) :
  Calls Tryz.prog 13 #[.int .i64 ni, .pointer (some ⟨X.d, 0, none⟩), .int .u64 (grace : Int)] w1 fun e w' => ∃ nb X' Y S', e = .returned (.tuple #[.pointer (some ⟨nb, 0, none⟩), .int .i64 0]) ∧ NdW w w' X' S' Y Nd.v0 nb ni 0 grace ∧ Nd.NS q S' Nd.v0 0 100 := by
 obtain ⟨S', hcr, hns⟩ := Nd.born q h1 h2
 refine (nopen_any (dm_nw h2 he hd hb hf) rfl (by rw [show (Sd.new q).list = [] by simp [Sd.list, Sd.new]]; intro s hs; cases hs) (by show 0 ≤ _; omega) S' Nd.v0 hcr (by decide) (by decide) ni grace hni hgr).mono ?_
 rintro e w' ⟨nb, X', Y, rfl, e1, h3, c, f, hnb⟩
 have hlow : ∀ g ∈ XY X' Y, w.heap.size ≤ g := fun g hg => by
  rcases f g hg with z | z
  ·exact hf g z
  ·exact Nat.le_trans hb.size z
 exact ⟨nb, X', Y, S', rfl, ⟨h3, hlow, hb.trans (c.below hb.size hf)⟩, hns⟩
theorem naw_any (he : Env w) : Calls Tryz.prog 22 #[] w fun e w' => e = .returned (.bool true) ∧ Below w.heap.size w w' := by
 have HDN := Lib.hid (dnew_any 1048576 w)
 have HE := Lib.hid he
 clear he
 go_enter Tryz.func22, Tryz.ntmps22
 go_wp2_with fail
 with_reducible refine HDN.out.mono ?_
 rintro e w1 ⟨X0, rfl, hdk, hb1, hfo⟩
 have hop := nborn_any (by omega) (by omega) HE.out hdk hb1 hfo 2 5 (by omega) (by omega)
 rw [show ((5 : Nat) : Int) = 5 from rfl] at hop
 have HOP := Lib.hid hop
 clear hop hdk hb1 hfo HDN
 go_wp2_with fail
 with_reducible refine HOP.out.mono ?_
 rintro e w2 ⟨nb, X, Y, S, rfl, hw, hns⟩
 have hask := hask_any hw.at_ (hns.nrm (by omega) (by omega) (by simp [Nd.v0])) 1 3 7 none 0 0 [] ⟨by simp, by simp, by simp, by simp, by simp, by simp, rfl, .inl rfl⟩ Row.nil_ (by omega)
 rw [show ((3 : Nat) : Int) = 3 from rfl, show ((7 : Nat) : Int) = 7 from rfl] at hask
 have HASK := Lib.hid hask
 have HWB := Lib.hid hw.bel
 have HLOW := Lib.hid hw.low
 clear hask hw hns HOP
 go_wp2_with fail
 with_reducible refine HASK.out.mono ?_
 rintro e w3 ⟨X1, Y1, e1, e2, h3, c3, f3, g, B, n, c, rfl, ha, hg, hr, hB, hgx, hBx⟩
 have hn0 : n = 0 := by
  have := hr.itlen
  simpa [Nd.v0] using this.symm
 subst hn0
 have a0 := ha.cell 0
 have a2 := ha.cell 2
 have a3 := ha.cell 3
 have a5 := ha.cell 5
 simp only [gE0, gE1] at a0 a2 a3 a5
 have HNW := Lib.hid (nnow_any h3)
 have HB3 := Lib.hid (HWB.out.trans (c3.below HWB.out.size HLOW.out))
 clear HASK e1 e2 h3 c3 f3 ha hg hr hB hgx hBx HWB HLOW
 go_wp2_with fail
 with_reducible refine HNW.out.mono ?_
 rintro e w4 ⟨rfl, rfl⟩
 go_wp2
 go_ret
 exact ⟨rfl, HB3.out⟩
end
section
open Go Go.RowKit Go.ChangeShapes Go.WideShapes Go.Deep Go.Joins
theorem row_of_items (W : World) (a : Addr) (len : Nat) (f : Nat → It) (h : ∀ i, i < len → ∀ j v, (f i).cells[j]? = some v → W.cell? (a.add (i * 5 + j)) = some v) : Row W.heap.size W (some a) len 5 (itc ((List.range len).map f)) := by
 have hl : (itc ((List.range len).map f)).length = len * 5 := by rw [itc_length]; simp
 refine ⟨hl, fun j hj => ?_⟩
 have hi : j / 5 < len := by omega
 have hm : j % 5 < 5 := Nat.mod_lt _ (by omega)
 have hg := itc_get ((List.range len).map f) (j / 5) (j % 5) (by simpa using hi) hm
 rw [show j / 5 * 5 + j % 5 = j by omega] at hg
 simp only [List.getElem_map, List.getElem_range] at hg
 have hlt : j % 5 < (f (j / 5)).cells.length := by rw [It.cells_len]; exact hm
 have hc := h (j / 5) hi (j % 5) _ (List.getElem?_eq_getElem hlt)
 rw [show j / 5 * 5 + j % 5 = j by omega] at hc
 have hb := World.block_lt_of_cell? W _ hc
 rw [add_block] at hb
 refine ⟨a, rfl, hb, ?_⟩
 rw [hc, ← List.getElem?_eq_getElem hlt, ← hg, List.getElem?_eq_getElem hj]
theorem items_arg {H : Type} {enc : TypeId × Value → H} {W : World} {base b0 : Nat} {r : Reach} {spare : Nat → Bool} {held : Bool} {v : Value} {d : DataW H} {p : List MemPlace}
  (hv : Value.okWide Tryz.prog W r b0 24 v) (h : DataW.Trod enc Tryz.prog W base spare held 24 v d p) :
  ∃ (A : Option Addr) (n c : Nat) (l : List It), v = .slice A n c ∧ n ≤ c ∧ c ≤ maxLen ∧ Row W.heap.size W A n 5 (itc l) ∧ ∀ x ∈ l, x.fit := by
 obtain ⟨fuel, hf⟩ := h
 obtain ⟨a, n, c, rfl⟩ := okWide_slice Tryz.underlying24 hv
 have hc : (Value.slice a n c).cells.toList = [.slice a n c] := rfl
 rw [hc] at hf
 rcases open_slice_fields Tryz.underlying24 Tryz.underlying27 (by kernel_rfl) (by kernel_rfl) hf with hcs | ⟨a, l, c, m, hcs, hl, hm, hmm, hx⟩
 ·simp at hcs
  obtain ⟨rfl, rfl, rfl⟩ := hcs
  exact ⟨none, 0, 0, [], rfl, Nat.le_refl _, Nat.zero_le _, Row.nil_, fun x hx => by cases hx⟩
 ·simp at hcs
  obtain ⟨rfl, rfl, rfl⟩ := hcs
  have hlm : n ≤ m := by subst hmm; split <;> omega
  have key : ∀ i : Nat, ∃ x : It, x.fit ∧ (i < n → ∀ j v, x.cells[j]? = some v → W.cell? (a.add (i * 5 + j)) = some v) := by
   intro i
   by_cases hi : i < n
   ·obtain ⟨ys, k, hf⟩ := hx i (by omega)
    obtain ⟨v0, y0, h0, _, t0⟩ := hf 0 _ rfl
    obtain ⟨v1, y1, h1, _, t1⟩ := hf 1 _ rfl
    obtain ⟨v2, y2, h2, _, t2⟩ := hf 2 _ rfl
    obtain ⟨v3, y3, h3, _, t3⟩ := hf 3 _ rfl
    obtain ⟨v4, y4, h4, _, t4⟩ := hf 4 _ rfl
    obtain ⟨z0, e0, _, _⟩ := DataW.trod_int Tryz.underlying3 t0
    obtain ⟨z1, e1, _, _⟩ := DataW.trod_int Tryz.underlying3 t1
    obtain ⟨z2, e2, _, w2⟩ := DataW.trod_int Tryz.underlying25 t2
    obtain ⟨z3, e3, _, w3⟩ := DataW.trod_int Tryz.underlying25 t3
    obtain ⟨z4, e4, _, w4⟩ := DataW.trod_int Tryz.underlying2 t4
    simp at e0 e1 e2 e3 e4
    subst e0 e1 e2 e3 e4
    obtain ⟨u2, rfl, b2⟩ := wfu64 w2
    obtain ⟨u3, rfl, b3⟩ := wfu64 w3
    have b4 := wfi64 w4
    refine ⟨⟨z0, z1, u2, u3, z4⟩, ⟨b4.1, Int.lt_of_le_of_lt b4.2 (by decide)⟩, fun _ j v hj => ?_⟩
    match j with
    | 0 => simp [It.cells] at hj; subst hj; exact h0
    | 1 => simp [It.cells] at hj; subst hj; exact h1
    | 2 => simp [It.cells] at hj; subst hj; exact h2
    | 3 => simp [It.cells] at hj; subst hj; exact h3
    | 4 => simp [It.cells] at hj; subst hj; exact h4
    | k + 5 => simp [It.cells] at hj
   ·exact ⟨⟨0, 0, 0, 0, 0⟩, by unfold It.fit; simp, fun h => absurd h hi⟩
  obtain ⟨f, hf⟩ := Classical.axiomOfChoice key
  refine ⟨some a, n, c, (List.range n).map f, rfl, hl, hm, row_of_items W a n f (fun i hi => (hf i).2 hi), fun x hx => ?_⟩
  obtain ⟨i, _, rfl⟩ := List.mem_map.1 hx
  exact (hf i).1
end
end Go.Proofs.YtdkjoigpahafmaaGreatDoor
