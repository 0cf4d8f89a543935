/- Texts ChunkB, BlockA, BloomA, Apply, EditJ, BloomB, TableA, PlainFit, TableB, ManH, Fixed, ManD, EditK in one. No conditions. -/
import Derived.Test.YtdkjoigpahafmaaGreatDoorBunAK
import Derived.Test.YtdkjoigpahafmaaGreatDoorBunAJ
import Derived.Maps.AppendAt
import Derived.Maps.OwnIn
import Derived.Test.YtdkjoigpahafmaaGreatDoorBunAD
import Derived.Test.YtdkjoigpahafmaaGreatDoorBunAI
import Derived.Deep.RegionHeld3
import Derived.Test.YtdkjoigpahafmaaGreatDoorBunAG
import Derived.Test.YtdkjoigpahafmaaGreatDoorBunAB
import Derived.Test.YtdkjoigpahafmaaGreatDoorBunAA
import Derived.Deep.RegionLaw
import Derived.StillTailTactics

set_option linter.unusedSimpArgs false
set_option linter.unusedVariables false
set_option maxRecDepth 100000
set_option maxHeartbeats 16000000
namespace Go.Proofs.YtdkjoigpahafmaaGreatDoor
section
open Go Go.RowKit Go.Lib Go.Shelf
attribute [local go_sem] Oper.semAt_some
def Kp3 (n₀ a b : Nat) (W W' : World) : Prop := Below n₀ W W' ∧ W'.heap[a]? = W.heap[a]? ∧ W'.heap[b]? = W.heap[b]?
theorem Kp3.trans {n₀ a b : Nat} {A B C : World} (h : Kp3 n₀ a b A B) (k : Kp3 n₀ a b B C) : Kp3 n₀ a b A C := ⟨h.1.trans k.1, k.2.1.trans h.2.1, k.2.2.trans h.2.2⟩
theorem Kp3.cell {n₀ a b : Nat} (W W' : World) (h : Kp3 n₀ a b W W') : W'.cell? ⟨a, 0, none⟩ = W.cell? ⟨a, 0, none⟩ ∧ W'.cell? ⟨b, 0, none⟩ = W.cell? ⟨b, 0, none⟩ := ⟨World.cell?_of_block h.2.1, World.cell?_of_block h.2.2⟩
theorem own_ne {W : World} {base : Nat} {e : TypeId} {size n : Nat} {v : Value} {xs : List Value} (h : W.ownsRow base e size v n xs) {row : Option Nat} (hr : ∀ r, row = some r → ∀ cs fr, W.heap[r]? ≠ some (.cells cs e fr)) : v.ownBlock = none ∨ v.ownBlock ≠ row := by
 rcases h.2 with ⟨rfl, _⟩ | ⟨g, cap, cur, rfl, hb, hgb, _⟩
 ·exact .inl rfl
 ·exact .inr fun e' => hr g (by simpa [Value.ownBlock] using e'.symm) _ _ hgb
def Cuts {m len : Nat} (n₀ : Nat) (W : World) (L : List It) (v : Value) (pre : List (Ck m len)) : Prop := ∃ vs, W.ownsRow n₀ 24 1 v pre.length vs ∧ ∀ i (h : i < pre.length), ∃ A k c, vs[i]? = some (.slice A k c) ∧ k ≤ c ∧ c ≤ maxLen ∧ W.ownsRow n₀ 27 5 (.slice A k c) k (itc (Ck.of L pre[i]))
theorem Cuts.kept {m len n₀ : Nat} {W W' : World} {L : List It} {v : Value} {pre : List (Ck m len)} (h : Cuts n₀ W L v pre) {row : Option Nat} (hg : W.grownBy W' row) (hr : ∀ r, row = some r → ∀ cs fr, W.heap[r]? ≠ some (.cells cs 24 fr) ∧ W.heap[r]? ≠ some (.cells cs 27 fr)) : Cuts n₀ W' L v pre := by
 obtain ⟨vs, h1, h2⟩ := h
 refine ⟨vs, h1.kept hg (own_ne h1 fun r e cs fr => (hr r e cs fr).1), fun i hi => ?_⟩
 obtain ⟨A, k, c, z1, z2, z3, z4⟩ := h2 i hi
 exact ⟨A, k, c, z1, z2, z3, z4.kept hg (own_ne z4 fun r e cs fr => (hr r e cs fr).2)⟩
theorem Cuts.more {m len n₀ : Nat} {W W' : World} {L : List It} {v v' : Value} {vs : List Value} {pre : List (Ck m len)} {x : Ck m len} {A : Option Addr} {k c : Nat} (h : ∀ i (h : i < pre.length), ∃ A k c, vs[i]? = some (.slice A k c) ∧ k ≤ c ∧ c ≤ maxLen ∧ W.ownsRow n₀ 27 5 (.slice A k c) k (itc (Ck.of L pre[i]))) (hl : vs.length = pre.length) (hg : W.grownBy W' v.ownBlock) (hv : W.ownsRow n₀ 24 1 v pre.length vs)
  (hk : k ≤ c) (hc : c ≤ maxLen) (ho : W.ownsRow n₀ 27 5 (.slice A k c) k (itc (Ck.of L x))) (hv' : W'.ownsRow n₀ 24 1 v' (pre.length + 1) (vs ++ [.slice A k c])) : Cuts n₀ W' L v' (pre ++ [x]) := by
 have hne : ∀ r, v.ownBlock = some r → ∀ cs fr, W.heap[r]? ≠ some (.cells cs 27 fr) := by
  intro r hr cs fr e
  rcases hv.2 with ⟨rfl, _⟩ | ⟨g, cap, cur, rfl, hb, hgb, _⟩
  ·simp [Value.ownBlock] at hr
  ·obtain rfl : g = r := by simpa [Value.ownBlock] using hr
   rw [hgb] at e
   injection e with e
   injection e with _ e
   exact absurd e (by decide)
 refine ⟨vs ++ [.slice A k c], by rw [List.length_append]; exact hv', fun i hi => ?_⟩
 rw [List.length_append] at hi
 rcases Nat.lt_or_ge i pre.length with h1 | h1
 ·obtain ⟨A, k, c, z1, z2, z3, z4⟩ := h i h1
  refine ⟨A, k, c, by rw [List.getElem?_append_left (by omega)]; exact z1, z2, z3, ?_⟩
  rw [List.getElem_append_left h1]
  exact z4.kept hg (own_ne z4 hne)
 ·have h2 : i = pre.length := by simp at hi; omega
  subst h2
  refine ⟨A, k, c, by rw [← hl]; simp, hk, hc, ?_⟩
  rw [List.getElem_append_right (Nat.le_refl _)]
  simp only [Nat.sub_self, List.getElem_cons_zero]
  exact ho.kept hg (own_ne ho hne)
theorem Cuts.rows {m len n₀ : Nat} {W : World} {L : List It} {A : Option Addr} {n c : Nat} {pre : List (Ck m len)} (h : Cuts n₀ W L (.slice A n c) pre) : n = pre.length ∧ IRows W.heap.size W A n (pre.map (Ck.of L)) := by
 obtain ⟨vs, h1, h2⟩ := h
 have hn : n = pre.length := by
  rcases h1.2 with ⟨e, e2⟩ | ⟨g, cap, cur, e, _⟩
  ·injection e with _ e _
   omega
  ·injection e
 subst hn
 refine ⟨rfl, vs, Row.own h1, by simp, fun i hi => ?_⟩
 rw [List.length_map] at hi
 obtain ⟨A, k, c, z1, z2, z3, z4⟩ := h2 i hi
 exact ⟨A, k, c, z1, z2, z3, by rw [List.getElem_map]; exact Row.own z4⟩
end
section
open Go Go.RowKit Go.Lib
end
section
open Go Go.RowKit Go.Lib
structure BlAt (w : World) (f g : Nat) (b : List UInt8) : Prop where
 box : BoxO w 330 f [.int .i64 7, .slice (some ⟨g, 0, none⟩) b.length b.length]
 bits : BoxO w 5 g (bts b)
 ne : f ≠ g
theorem BlAt.below {w w' : World} {f g : Nat} {b : List UInt8} (h : BlAt w f g b) (hb : Below w.heap.size w w') : BlAt w' f g b := ⟨h.box.below hb, h.bits.below hb, h.ne⟩
theorem BlAt.chg {F : List Nat} {w w' : World} {f g : Nat} {b : List UInt8} (h : BlAt w f g b) (hb : Chg F w w') (h1 : f ∉ F) (h2 : g ∉ F) : BlAt w' f g b := ⟨h.box.chg hb h1, h.bits.chg hb h2, h.ne⟩
end
section
open Go Go.RowKit
structure Fresh (B : Nat) (w : World) (A : Option Addr) (n c : Nat) (fs : List (Int × Int)) : Prop where
 row : Row w.heap.size w A n 2 (fcells fs)
 nc : n ≤ c
 cm : c ≤ maxLen
 low : ∀ a, A = some a → B ≤ a.block
theorem own_fresh {base B : Nat} {w : World} {A : Option Addr} {n c : Nat} {fs : List (Int × Int)} (h : w.ownsRow base 166 2 (.slice A n c) n (fcells fs)) (hB : B ≤ base) : Fresh B w A n c fs := by
 obtain ⟨_, _, hsl, hnc, hcm, hbs⟩ := own_form h
 injection hsl with h1 h2 h3
 subst h1 h3
 exact ⟨Row.own h, hnc, hcm, fun a ha => Nat.le_trans hB (hbs a ha).1⟩
theorem Fresh.below {B n c : Nat} {w w' : World} {A : Option Addr} {fs : List (Int × Int)} (h : Fresh B w A n c fs) (hb : Below w.heap.size w w') : Fresh B w' A n c fs := ⟨(h.row.below hb).up hb.size, h.nc, h.cm, h.low⟩
theorem Fresh.chg {B n c : Nat} {w w' : World} {A : Option Addr} {fs : List (Int × Int)} {G : List Nat} (h : Fresh B w A n c fs) (k : Chg G w w') (hg : ∀ a, A = some a → a.block ∉ G) : Fresh B w' A n c fs := ⟨(k.row h.row (Nat.le_refl _) hg).up k.size, h.nc, h.cm, h.low⟩
end
section
open Go Go.RowKit
theorem step_appG {P : Program} {ops : Array Oper} {o : Oper} {a : Act} {w : World} {K : Act → World → Prop} {Q : Exit → Act → World → Prop} {E : Prop} (hgd : o.guard = none) (s x : Operand) (t : TypeId)
  (ho : o.op = .call { callee := .builtin .append, args := #[s, x], argTypes := #[t, t] })
  (base : Nat) (e : TypeId) (i : TypeInfo) (z : Value) (size bytes : Nat) (ht : P.underlying t = some (.slice e)) (hi : P.info? e = some i) (hz : i.zero = some z)
  (hsize : i.size = size) (hby : i.bytes = bytes) (hzs : z.cells.size = size) (hsz : 0 < size) (hbase : base ≤ w.heap.size) (v : Value) (n : Nat) (xs : List Value) (hs : a.eval s = v) (hown : w.ownsRow base e size v n xs)
  (B : Nat) (A : Option Addr) (m c : Nat) (news : List Value) (hx : a.eval x = .slice A m c) (hr : Row B w A m size news) (h1 : ∀ u ∈ news, u.oneCell' = true)
  (N : Nat) (X : List Value) (hN : n + m = N) (hX : xs ++ news = X) (h63 : N ≤ maxLen) (hbytes : N * bytes ≤ 140737488355328)
  (h : ∀ A' c' w', w'.ownsRow base e size (.slice A' N c') N X → w.grownBy w' v.ownBlock → N ≤ c' → c' ≤ maxLen → ((Value.slice A' N c').ownBlock = v.ownBlock ∨ (Value.slice A' N c').ownBlock = some w.heap.size) → K (a.put o.dst (.slice A' N c')) w') :
  if Region.wanted o (yielded ops a.tmps) = true then Oper.wp P o a w K Q else E := by
 have hw : Region.wanted o (yielded ops a.tmps) = true := by simp [Region.wanted, hgd]
 rw [if_pos hw]
 subst hN
 subst hX
 obtain ⟨A', c', w', hrun, h3, h4, h5, h7, h6⟩ := run_appG (P := P) w base t o.type e i z size bytes ht hi hz hsize hby hzs hsz v n xs hown B A m c news hr h1 h63 hbytes hbase
 unfold Oper.wp execOp
 simp only [ho, resolve, invoke, builtin, Sem.run_bind, Sem.run_pure, Result.andThen_ok, List.map_toArray, List.map_cons, List.map_nil, hs, hx, hrun]
 exact h A' c' w' h3 h4 h5 h7 h6
theorem Fresh.base {B B' n c : Nat} {w : World} {A : Option Addr} {fs : List (Int × Int)} (h : Fresh B w A n c fs) (hb : B' ≤ B) : Fresh B' w A n c fs := ⟨h.row, h.nc, h.cm, fun a ha => Nat.le_trans hb (h.low a ha)⟩
theorem BoxO.grown {w w' : World} {e : TypeId} {g : Nat} {xs : List Value} (h : BoxO w e g xs) (hg : w.grownBy w' none) : BoxO w' e g xs := (hg.block g h.lt (by simp)).trans h
theorem own_gen (v : Vw) (A : Option Addr) (n c : Nat) (w : World) (hn : n ≤ 100000) (hr : Row w.heap.size w A n 2 (fcells v.files)) :
  Calls Tryz.prog 134 #[v.val A n c] w fun e w' => ∃ A' c', e = .returned (v.val A' n c') ∧ Fresh w.heap.size w' A' n c' v.files ∧ Below w.heap.size w w' := by
 obtain ⟨i0, hi0, hz0, hz1, hz2⟩ := info_parts info_file
 obtain ⟨g, fs, f, ce, a, l⟩ := v
 unfold Vw.val
 simp only at hr ⊢
 go_enter Tryz.func134, Tryz.ntmps134
 go_wp2_with (at_builtin; refine stop_in ?_)
 have hbw : Below w.heap.size w ((w.alloc (.cells #[.int .i64 g, .slice A n c, .int .u64 (f : Int), .int .u64 (ce : Int), .int .u64 (a : Int), .int .u64 (l : Int)] 134)).alloc (.cells #[.int .i64 0, .slice none 0 0, .int .u64 0, .int .u64 0, .int .u64 0, .int .u64 0] 134)) := ((Below.refl _ _).alloc (Nat.le_refl _) _).alloc (by simp) _
 have hP := (BoxO.new w #[.int .i64 g, .slice A n c, .int .u64 (f : Int), .int .u64 (ce : Int), .int .u64 (a : Int), .int .u64 (l : Int)] 134).alloc (.cells #[.int .i64 0, .slice none 0 0, .int .u64 0, .int .u64 0, .int .u64 0, .int .u64 0] 134)
 have hR := BoxO.new (w.alloc (.cells #[.int .i64 g, .slice A n c, .int .u64 (f : Int), .int .u64 (ce : Int), .int .u64 (a : Int), .int .u64 (l : Int)] 134)) #[.int .i64 0, .slice none 0 0, .int .u64 0, .int .u64 0, .int .u64 0, .int .u64 0] 134
 simp only [World.size_alloc] at hR
 have hsz : ((w.alloc (.cells #[.int .i64 g, .slice A n c, .int .u64 (f : Int), .int .u64 (ce : Int), .int .u64 (a : Int), .int .u64 (l : Int)] 134)).alloc (.cells #[.int .i64 0, .slice none 0 0, .int .u64 0, .int .u64 0, .int .u64 0, .int .u64 0] 134)).heap.size = w.heap.size + 1 + 1 := by simp
 refine stop_out (wpList_app0 rfl _ (.tmp 4) _ rfl (w.heap.size + 1 + 1) 166 i0 _ 2 16 Tryz.underlying132 hi0 hz0 hz1 hz2 rfl (by omega) ((w.alloc (.cells #[.int .i64 g, .slice A n c, .int .u64 (f : Int), .int .u64 (ce : Int), .int .u64 (a : Int), .int .u64 (l : Int)] 134)).alloc (.cells #[.int .i64 0, .slice none 0 0, .int .u64 0, .int .u64 0, .int .u64 0, .int .u64 0] 134)) (Below.refl _ _) (by rw [hsz]; exact Nat.le_refl _) rfl w.heap.size A n c (fcells fs) rfl (hr.below hbw) (fcells_one _) (by unfold maxLen; omega) (by omega) ?_)
 intro A1 k1 w1 ho1 hb1 hg1 hk1 hm1
 have hbl1 : Below w.heap.size w w1 := hbw.trans (hb1.mono (by omega))
 have hP1 : BoxO w1 _ _ _ := hP.grown hg1
 have hR1 : BoxO w1 _ _ _ := hR.grown hg1
 have hF := own_fresh ho1 (Nat.le_refl _)
 clear hbw hP hR hsz hb1 hg1 ho1
 have q0 := hP1.cell 0
 have q1 := hP1.cell 1
 have z1 := hP1.free 1
 have q2 := hP1.cell 2
 have q3 := hP1.cell 3
 have q4 := hP1.cell 4
 have q5 := hP1.cell 5
 have r0 := hR1.cell 0
 have y0 := hR1.free 0
 have r1 := hR1.cell 1
 have y1 := hR1.free 1
 have r2 := hR1.cell 2
 have y2 := hR1.free 2
 have r3 := hR1.cell 3
 have y3 := hR1.free 3
 have r4 := hR1.cell 4
 have y4 := hR1.free 4
 have r5 := hR1.cell 5
 have y5 := hR1.free 5
 simp only [gE0, gE1] at q0 q1 q2 q3 q4 q5 r0 r1 r2 r3 r4 r5
 clear hP1 hR1
 go_wp2_with fail
 refine bodyPost_ret (v := .agg #[.int .i64 g, .slice A1 n k1, .int .u64 (f : Int), .int .u64 (ce : Int), .int .u64 (a : Int), .int .u64 (l : Int)]) (by simp [results, go_sem, *]) rfl ⟨A1, k1, rfl, ?_, ?_⟩
 ·have hch : Chg [w.heap.size, w.heap.size + 1] w1 _ := (((((((Chg.refl _ w1).setCell (p := ⟨w.heap.size, 1, none⟩) (.slice A1 n k1) (.inl (by simp))).setCell (p := ⟨w.heap.size + 1, 0, none⟩) (.int .i64 g) (.inl (by simp))).setCell (p := ⟨w.heap.size + 1, 1, none⟩) (.slice A1 n k1) (.inl (by simp))).setCell (p := ⟨w.heap.size + 1, 2, none⟩) (.int .u64 (f : Int)) (.inl (by simp))).setCell (p := ⟨w.heap.size + 1, 3, none⟩) (.int .u64 (ce : Int)) (.inl (by simp))).setCell (p := ⟨w.heap.size + 1, 4, none⟩) (.int .u64 (a : Int)) (.inl (by simp))).setCell (p := ⟨w.heap.size + 1, 5, none⟩) (.int .u64 (l : Int)) (.inl (by simp))
  exact (hF.chg hch (fun q hq h => by
   have := hF.low q hq
   simp at h
   omega)).base (by omega)
 ·exact ((((((hbl1.setCell (by simp) _).setCell (by simp) _).setCell (by simp) _).setCell (by simp) _).setCell (by simp) _).setCell (by simp) _).setCell (by simp) _
theorem whole_gen (v : Vw) (A : Option Addr) (n c : Nat) (w : World) (hn : n ≤ 100000) (hr : Row w.heap.size w A n 2 (fcells v.files)) :
  Calls Tryz.prog 198 #[v.val A n c] w fun e w' => ∃ A' c', e = .returned (v.whole.val none 0 0 A' n c') ∧ Fresh w.heap.size w' A' n c' v.files ∧ Below w.heap.size w w' := by
 obtain ⟨i0, hi0, hz0, hz1, hz2⟩ := info_parts info_file
 obtain ⟨g, fs, f, ce, a, l⟩ := v
 unfold Vw.val Vw.whole Ed.val
 simp only at hr ⊢
 go_enter Tryz.func198, Tryz.ntmps198
 go_wp2_with fail
 change Code.wp _ _ _ _ ((w.alloc (.cells #[.int .i64 g, .slice A n c, .int .u64 (f : Int), .int .u64 (ce : Int), .int .u64 (a : Int), .int .u64 (l : Int)] 134)).alloc (.cells #[.slice none 0 0, .slice none 0 0, .int .i64 0, .int .u64 0, .int .u64 0, .int .u64 0, .int .u64 0] 163))
 have hbw : Below w.heap.size w ((w.alloc (.cells #[.int .i64 g, .slice A n c, .int .u64 (f : Int), .int .u64 (ce : Int), .int .u64 (a : Int), .int .u64 (l : Int)] 134)).alloc (.cells #[.slice none 0 0, .slice none 0 0, .int .i64 0, .int .u64 0, .int .u64 0, .int .u64 0, .int .u64 0] 163)) := ((Below.refl _ _).alloc (Nat.le_refl _) _).alloc (by simp) _
 have hP := (BoxO.new w #[.int .i64 g, .slice A n c, .int .u64 (f : Int), .int .u64 (ce : Int), .int .u64 (a : Int), .int .u64 (l : Int)] 134).alloc (.cells #[.slice none 0 0, .slice none 0 0, .int .i64 0, .int .u64 0, .int .u64 0, .int .u64 0, .int .u64 0] 163)
 have hR := BoxO.new (w.alloc (.cells #[.int .i64 g, .slice A n c, .int .u64 (f : Int), .int .u64 (ce : Int), .int .u64 (a : Int), .int .u64 (l : Int)] 134)) #[.slice none 0 0, .slice none 0 0, .int .i64 0, .int .u64 0, .int .u64 0, .int .u64 0, .int .u64 0] 163
 simp only [World.size_alloc] at hR
 have hsz : ((w.alloc (.cells #[.int .i64 g, .slice A n c, .int .u64 (f : Int), .int .u64 (ce : Int), .int .u64 (a : Int), .int .u64 (l : Int)] 134)).alloc (.cells #[.slice none 0 0, .slice none 0 0, .int .i64 0, .int .u64 0, .int .u64 0, .int .u64 0, .int .u64 0] 163)).heap.size = w.heap.size + 1 + 1 := by simp
 have hrV := hr.below hbw
 generalize ((w.alloc (.cells #[.int .i64 g, .slice A n c, .int .u64 (f : Int), .int .u64 (ce : Int), .int .u64 (a : Int), .int .u64 (l : Int)] 134)).alloc (.cells #[.slice none 0 0, .slice none 0 0, .int .i64 0, .int .u64 0, .int .u64 0, .int .u64 0, .int .u64 0] 163)) = V at *
 have HRV := Lib.hid hrV.drew
 have HSZ : Hid (w.heap.size + 1 + 1 ≤ V.drew.heap.size) := Lib.hid (Nat.le_of_eq hsz.symm)
 clear hrV hr hsz
 refine wp_region_held_drew (S := (fun w' => Below w.heap.size w w' ∧ BoxO w' 134 w.heap.size [.int .i64 g, .slice A n c, .int .u64 (f : Int), .int .u64 (ce : Int), .int .u64 (a : Int), .int .u64 (l : Int)])) rfl ⟨below_drew hbw, hP.drew⟩ (fun hSw => ?_)
 refine wpT (i := 0) (v := ?v0) ?h0 hSw ?k0
 case h0 => (intro w hSw; have u0 := hSw.2.cell 0; have u1 := hSw.2.cell 1; have u2 := hSw.2.cell 2; have u3 := hSw.2.cell 3; have u4 := hSw.2.cell 4; have u5 := hSw.2.cell 5; simp only [gE0, gE1] at u0 u1 u2 u3 u4 u5; go_simp; try (with_reducible rfl))
 go_simp
 refine wpT (i := 1) (v := ?v1) ?h1 hSw ?k1
 case h1 => (intro w hSw; have u0 := hSw.2.cell 0; have u1 := hSw.2.cell 1; have u2 := hSw.2.cell 2; have u3 := hSw.2.cell 3; have u4 := hSw.2.cell 4; have u5 := hSw.2.cell 5; simp only [gE0, gE1] at u0 u1 u2 u3 u4 u5; go_simp; try (with_reducible rfl))
 go_simp
 refine wpT (i := 3) (v := ?v3) ?h3 hSw ?k3
 case h3 => (intro w hSw; have u0 := hSw.2.cell 0; have u1 := hSw.2.cell 1; have u2 := hSw.2.cell 2; have u3 := hSw.2.cell 3; have u4 := hSw.2.cell 4; have u5 := hSw.2.cell 5; simp only [gE0, gE1] at u0 u1 u2 u3 u4 u5; go_simp; try (with_reducible rfl))
 go_simp
 refine wpT (i := 4) (v := ?v4) ?h4 hSw ?k4
 case h4 => (intro w hSw; have u0 := hSw.2.cell 0; have u1 := hSw.2.cell 1; have u2 := hSw.2.cell 2; have u3 := hSw.2.cell 3; have u4 := hSw.2.cell 4; have u5 := hSw.2.cell 5; simp only [gE0, gE1] at u0 u1 u2 u3 u4 u5; go_simp; try (with_reducible rfl))
 go_simp
 refine wpT (i := 5) (v := ?v5) ?h5 hSw ?k5
 case h5 => (intro w hSw; have u0 := hSw.2.cell 0; have u1 := hSw.2.cell 1; have u2 := hSw.2.cell 2; have u3 := hSw.2.cell 3; have u4 := hSw.2.cell 4; have u5 := hSw.2.cell 5; simp only [gE0, gE1] at u0 u1 u2 u3 u4 u5; go_simp; try (with_reducible rfl))
 go_simp
 refine wpT (i := 6) (v := ?v6) ?h6 hSw ?k6
 case h6 => (intro w hSw; have u0 := hSw.2.cell 0; have u1 := hSw.2.cell 1; have u2 := hSw.2.cell 2; have u3 := hSw.2.cell 3; have u4 := hSw.2.cell 4; have u5 := hSw.2.cell 5; simp only [gE0, gE1] at u0 u1 u2 u3 u4 u5; go_simp; try (with_reducible rfl))
 go_simp
 refine wpT (i := 7) (v := ?v7) ?h7 hSw ?k7
 case h7 => (intro w hSw; have u0 := hSw.2.cell 0; have u1 := hSw.2.cell 1; have u2 := hSw.2.cell 2; have u3 := hSw.2.cell 3; have u4 := hSw.2.cell 4; have u5 := hSw.2.cell 5; simp only [gE0, gE1] at u0 u1 u2 u3 u4 u5; go_simp; try (with_reducible rfl))
 go_simp
 refine wpT (i := 8) (v := ?v8) ?h8 hSw ?k8
 case h8 => (intro w hSw; have u0 := hSw.2.cell 0; have u1 := hSw.2.cell 1; have u2 := hSw.2.cell 2; have u3 := hSw.2.cell 3; have u4 := hSw.2.cell 4; have u5 := hSw.2.cell 5; simp only [gE0, gE1] at u0 u1 u2 u3 u4 u5; go_simp; try (with_reducible rfl))
 go_simp
 refine wpT (i := 9) (v := ?v9) ?h9 hSw ?k9
 case h9 => (intro w hSw; have u0 := hSw.2.cell 0; have u1 := hSw.2.cell 1; have u2 := hSw.2.cell 2; have u3 := hSw.2.cell 3; have u4 := hSw.2.cell 4; have u5 := hSw.2.cell 5; simp only [gE0, gE1] at u0 u1 u2 u3 u4 u5; go_simp; try (with_reducible rfl))
 go_simp
 refine wpT (i := 10) (v := ?v10) ?h10 hSw ?k10
 case h10 => (intro w hSw; have u0 := hSw.2.cell 0; have u1 := hSw.2.cell 1; have u2 := hSw.2.cell 2; have u3 := hSw.2.cell 3; have u4 := hSw.2.cell 4; have u5 := hSw.2.cell 5; simp only [gE0, gE1] at u0 u1 u2 u3 u4 u5; go_simp; try (with_reducible rfl))
 go_simp
 refine wpT (i := 11) (v := ?v11) ?h11 hSw ?k11
 case h11 => (intro w hSw; have u0 := hSw.2.cell 0; have u1 := hSw.2.cell 1; have u2 := hSw.2.cell 2; have u3 := hSw.2.cell 3; have u4 := hSw.2.cell 4; have u5 := hSw.2.cell 5; simp only [gE0, gE1] at u0 u1 u2 u3 u4 u5; go_simp; try (with_reducible rfl))
 go_simp
 refine wpT (i := 12) (v := ?v12) ?h12 hSw ?k12
 case h12 => (intro w hSw; have u0 := hSw.2.cell 0; have u1 := hSw.2.cell 1; have u2 := hSw.2.cell 2; have u3 := hSw.2.cell 3; have u4 := hSw.2.cell 4; have u5 := hSw.2.cell 5; simp only [gE0, gE1] at u0 u1 u2 u3 u4 u5; go_simp; try (with_reducible rfl))
 go_simp
 refine wpAnyH_ready (rs := [2]) (by kernel_rfl) (by simp) ?_
 refine AllReadyH.cons rfl (fun K hK => ?_) AllReadyH.nil
 refine step_appG rfl (.const (.slice none 0 0)) (.tmp 4) _ rfl (w.heap.size + 1 + 1) 166 i0 _ 2 16 Tryz.underlying132 hi0 hz0 hz1 hz2 rfl (by omega) HSZ.out (.slice none 0 0) 0 [] rfl (World.ownsRow_nil _ _ _ _) w.heap.size A n c (fcells fs) rfl HRV.out (fcells_one _) n _ (Nat.zero_add _) (List.nil_append _) (by unfold maxLen; omega) (by omega) ?_
 intro A4 c4 w4 hown4 hg4 _ _ _
 have hF4 := own_fresh (B := w.heap.size + 1 + 1) hown4 (Nat.le_refl _)
 have hR4 : BoxO w4 _ _ _ := hR.drew.grown hg4
 have hS4 := (⟨hSw.1.grown hg4 hSw.1.size (fun k hk => by cases hk), hSw.2.grown hg4⟩ : Below w.heap.size w w4 ∧ BoxO w4 134 w.heap.size [.int .i64 g, .slice A n c, .int .u64 (f : Int), .int .u64 (ce : Int), .int .u64 (a : Int), .int .u64 (l : Int)])
 refine hK.out _ _ hS4 (fun hSn => ?_)
 clear hK K hSw hSn
 have hSw := hS4
 clear hS4 hown4 hg4 hR hP hbw HRV HSZ
 go_simp
 refine wpT (i := 13) (v := ?v13) ?h13 hSw ?k13
 case h13 => (intro w hSw; have u0 := hSw.2.cell 0; have u1 := hSw.2.cell 1; have u2 := hSw.2.cell 2; have u3 := hSw.2.cell 3; have u4 := hSw.2.cell 4; have u5 := hSw.2.cell 5; simp only [gE0, gE1] at u0 u1 u2 u3 u4 u5; go_simp; try (with_reducible rfl))
 go_simp
 have r0 := hR4.cell 0
 have y0 := hR4.free 0
 have r1 := hR4.cell 1
 have y1 := hR4.free 1
 have r2 := hR4.cell 2
 have y2 := hR4.free 2
 have r3 := hR4.cell 3
 have y3 := hR4.free 3
 have r4 := hR4.cell 4
 have y4 := hR4.free 4
 have r5 := hR4.cell 5
 have y5 := hR4.free 5
 have r6 := hR4.cell 6
 have y6 := hR4.free 6
 simp only [gE0, gE1] at r0 r1 r2 r3 r4 r5 r6
 have hch : Chg [w.heap.size + 1] w4 _ := (((((((Chg.refl _ w4).setCell (p := ⟨w.heap.size + 1, 0, none⟩) (.slice none 0 0) (.inl (by simp))).setCell (p := ⟨w.heap.size + 1, 1, none⟩) (.slice A4 n c4) (.inl (by simp))).setCell (p := ⟨w.heap.size + 1, 2, none⟩) (.int .i64 g) (.inl (by simp))).setCell (p := ⟨w.heap.size + 1, 3, none⟩) (.int .u64 (f : Int)) (.inl (by simp))).setCell (p := ⟨w.heap.size + 1, 4, none⟩) (.int .u64 (ce : Int)) (.inl (by simp))).setCell (p := ⟨w.heap.size + 1, 5, none⟩) (.int .u64 (a : Int)) (.inl (by simp))).setCell (p := ⟨w.heap.size + 1, 6, none⟩) (.int .u64 (l : Int)) (.inl (by simp))
 refine wpAnyH_ready (rs := [14]) (by kernel_rfl) (by simp) ?_
 refine AllReadyH.cons rfl (fun K hK => ?_) AllReadyH.nil
 go_simp
 refine hK.out _ _ ⟨(((((((hSw.1.setCell (by simp) _).setCell (by simp) _).setCell (by simp) _).setCell (by simp) _).setCell (by simp) _).setCell (by simp) _).setCell (by simp) _), hSw.2.chg hch (by simp)⟩ (fun hSn => ?_)
 clear hK K hSw
 have hSw := hSn
 clear hSn
 go_simp
 refine wpAnyH_done (by kernel_rfl) ?_ _
 go_wp2_with fail
 refine bodyPost_ret (v := .agg #[.slice none 0 0, .slice A4 n c4, .int .i64 g, .int .u64 (f : Int), .int .u64 (ce : Int), .int .u64 (a : Int), .int .u64 (l : Int)]) (by simp [results, go_sem, *]) rfl ⟨A4, c4, rfl, ?_, hSw.1⟩
 exact (hF4.chg hch (fun q hq h => by
  have := hF4.low q hq
  simp at h
  omega)).base (by omega)
end
section
open Go Go.RowKit Go.Lib
theorem setBit_len_ (b : List UInt8) (i : Nat) : (Tb.setBit b i).length = b.length := by simp [Tb.setBit]
theorem BlAt.set {w : World} {f g : Nat} {B : List UInt8} {x q j : Nat} {bx : UInt8} (h : BlAt w f g B) (hq : q = x / 8) (hj : j = x % 8) (hB : B[q]? = some bx) :
  BlAt (w.drew.setCell ⟨g, q, none⟩ (.int .u8 ((bx ||| UInt8.ofNat (2 ^ j)).toNat : Int))) f g (Tb.setBit B x) ∧ Chg [g] w (w.drew.setCell ⟨g, q, none⟩ (.int .u8 ((bx ||| UInt8.ofNat (2 ^ j)).toNat : Int))) := by
 have hc := chg_set w.drew ⟨g, q, none⟩ (.int .u8 ((bx ||| UInt8.ofNat (2 ^ j)).toNat : Int))
 refine ⟨⟨?_, ?_, h.ne⟩, ((Chg.refl [g] w).drew).trans hc (fun g hg => .inl hg)⟩
 ·rw [setBit_len_]
  exact h.box.drew.chg hc (by simpa using h.ne)
 ·have := h.bits.drew.store q (.int .u8 ((bx ||| UInt8.ofNat (2 ^ j)).toNat : Int))
  have e : (bts B).set q (.int .u8 ((bx ||| UInt8.ofNat (2 ^ j)).toNat : Int)) = bts (Tb.setBit B x) := by
   unfold Tb.setBit bts
   rw [List.map_set, ← hq, ← hj, List.getD_eq_getElem?_getD, hB]
   rfl
  rw [← e]
  exact this
theorem BlAt.app {w w' : World} {f g : Nat} {b : List UInt8} {r : Option Nat} (h : BlAt w f g b) (hg : w.grownBy w' r) (hr : some f ≠ r ∧ some g ≠ r) : BlAt w' f g b := ⟨h.box.igrown hg hr.1, h.bits.igrown hg hr.2, h.ne⟩
end
section
open Go Go.RowKit Go.Lib
end
section
namespace It
end It
end
section
open Go Go.RowKit Go.Lib
def TbAt (w : World) (f : Nat) (rs : List (List It)) : Prop := ∃ P n c cnt, cnt = rs.flatten.length ∧ BoxO w 271 f [.slice P n c, .int .i64 ((cnt : Nat) : Int), .int .u32 0, .int .i32 0, .int .u32 0, .pointer none] ∧ n ≤ c ∧ c ≤ maxLen ∧ IRows w.heap.size w P n rs
def Sames (b h : Nat) (w w' : World) : Prop := h ≤ w'.heap.size ∧ ∀ g, b ≤ g → g < h → w'.heap[g]? = w.heap[g]?
theorem Row.sames {B n size b h : Nat} {w w' : World} {A : Option Addr} {xs : List Value} (hr : Row B w A n size xs) (hs : Sames b h w w') (hB : B ≤ h) (hA : ∀ a, A = some a → b ≤ a.block) : Row B w' A n size xs := by
 refine ⟨hr.len, fun j hj => ?_⟩
 obtain ⟨a, e, h1, h2⟩ := hr.cell j hj
 refine ⟨a, e, h1, ?_⟩
 rw [World.cell?_of_block (w := w) (by rw [add_block]; exact hs.2 a.block (hA a e) (by omega))]
 exact h2
def HRows (b : Nat) (no : Option Nat) (w : World) (ls : List (List It)) (vs : List Value) : Prop := ls.length = vs.length ∧ ∀ i (h : i < ls.length), ∃ A k c, vs[i]? = some (.slice A k c) ∧ k ≤ c ∧ c ≤ maxLen ∧ Row w.heap.size w A k 5 (itc ls[i]) ∧ ∀ a, A = some a → b ≤ a.block ∧ a.block < w.heap.size ∧ some a.block ≠ no
theorem HRows.step {b : Nat} {no no' : Option Nat} {w w' : World} {ls : List (List It)} {vs : List Value} (hh : HRows b no w ls vs) (hs : w.heap.size ≤ w'.heap.size) (hk : ∀ g, b ≤ g → g < w.heap.size → some g ≠ no → w'.heap[g]? = w.heap[g]?) (hn : ∀ g, g < w.heap.size → some g ≠ no → some g ≠ no') : HRows b no' w' ls vs := by
 refine ⟨hh.1, fun i hi => ?_⟩
 obtain ⟨A, k, c, h1, h2, h3, h4, h5⟩ := hh.2 i hi
 refine ⟨A, k, c, h1, h2, h3, ⟨h4.len, fun j hj => ?_⟩, fun a ha => ⟨(h5 a ha).1, by have := (h5 a ha).2.1; omega, hn _ (h5 a ha).2.1 (h5 a ha).2.2⟩⟩
 obtain ⟨a, e, q1, q2⟩ := h4.cell j hj
 refine ⟨a, e, by omega, ?_⟩
 rw [World.cell?_of_block (w := w) (by rw [add_block]; exact hk _ (h5 a e).1 (h5 a e).2.1 (h5 a e).2.2)]
 exact q2
theorem HRows.row {b : Nat} {no : Option Nat} {w : World} {ls : List (List It)} {vs : List Value} (hh : HRows b no w ls vs) {P : Option Addr} {n : Nat} (hr : Row w.heap.size w P n 1 vs) : IRows w.heap.size w P n ls :=
 ⟨vs, hr, by have := hr.len; have := hh.1; omega, fun i hi => let ⟨A, k, c, h1, h2, h3, h4, _⟩ := hh.2 i hi; ⟨A, k, c, h1, h2, h3, h4⟩⟩
theorem TbAt.of {b f cnt : Nat} {w W : World} {v : Value} {vs : List Value} {rs : List (List It)} {no : Option Nat} (hc : cnt = rs.flatten.length) (hf : b ≤ f) (hx : BoxO w 271 f [v, .int .i64 (cnt : Int), .int .u32 0, .int .i32 0, .int .u32 0, .pointer none]) (ho : w.ownsRow b 24 1 v rs.length vs) (hh : HRows b none w rs vs) (hs : Sames b w.heap.size w W) : TbAt W f rs := by
 have hx2 : BoxO W 271 f _ := (hs.2 f hf hx.lt).trans hx
 obtain ⟨P, c, rfl, h1, h2, h3⟩ := own_form ho
 refine ⟨P, _, c, cnt, hc, hx2, h1, h2, ?_⟩
 have hr := ((Row.own ho).sames hs (Nat.le_refl _) (fun a ha => (h3 a ha).1)).up hs.1
 exact (hh.step (no' := none) hs.1 (fun g h4 h5 _ => hs.2 g h4 h5) (fun g _ h => h)).row hr
end
section
open Go Go.RowKit Go.Shelf
structure Sl where
 a : Option Addr
 n : Nat
 c : Nat
def Gs.cells (M : Gs) (xd : Nat) (P : Sl) : List Value := [.pointer (some ⟨xd, 0, none⟩), .string (str M.name), .int .i64 M.v.log, .slice P.a P.n P.c, .int .u64 (M.v.floor : Int), .int .u64 (M.v.cert : Int), .int .u64 (M.v.at_ : Int), .int .u64 (M.v.lease : Int), .int .i64 (M.count : Int), .int .u32 (if M.broken = true then 1 else 0), .int .i32 0, .int .u32 0, .bool M.broken]
abbrev GK (w : World) (m xd : Nat) (M : Gs) (P : Sl) : Prop := BoxO w 209 m (M.cells xd P)
theorem gbreak_any (m xd : Nat) (M : Gs) (P : Sl) (w : World) (h : GK w m xd M P) : Calls Tryz.prog 202 #[.pointer (some ⟨m, 0, none⟩)] w fun e w' => e = .returned (.tuple #[]) ∧ GK w' m xd { M with broken := true } P ∧ Chg [m] w w' := by
 have hmf : ∀ (fn : Fn) (first cap : Array Value) (w : World), (Instr.makeFunc fn first cap).run Tryz.prog w = .ok (.func fn first cap) w := fun _ _ _ _ => rfl
 have hlt := h.lt
 have h1 : GK (w.alloc (.cells #[.pointer (some ⟨m, 0, none⟩)] 70)) m xd M P := BoxO.alloc h _
 have hp : (w.alloc (.cells #[.pointer (some ⟨m, 0, none⟩)] 70)).cell? ⟨w.heap.size, 0, none⟩ = some (.pointer (some ⟨m, 0, none⟩)) := by simp
 have hc1 : Chg [m] w (w.alloc (.cells #[.pointer (some ⟨m, 0, none⟩)] 70)) := (Chg.refl [m] w).alloc _
 generalize hV : w.alloc (.cells #[.pointer (some ⟨m, 0, none⟩)] 70) = V at *
 have c9 := h1.cell 9
 have c10 := h1.cell 10
 have c12 := h1.cell 12
 simp only [Gs.cells, gE0, gE1] at c9 c10 c12
 cases hb : M.broken with
 | false =>
  rw [hb] at c9 c12
  simp only [Bool.false_eq_true, if_false] at c9
  have hdo := Once.do_first m ⟨w.heap.size, 0, none⟩ (by simp; omega) _ V hp c9 c10 c12 (h1.free 9) (h1.free 10) (h1.free 12)
  have hbx := ((((h1.store 10 (.int .i32 1)).store 12 (.bool true)).drew.store 9 (.int .u32 1)).store 10 (.int .i32 0))
  have hcc : Chg [m] V ((((V.setCell ⟨m, 10, none⟩ (.int .i32 1)).setCell ⟨m, 12, none⟩ (.bool true)).drew.setCell ⟨m, 9, none⟩ (.int .u32 1)).setCell ⟨m, 10, none⟩ (.int .i32 0)) := (((((Chg.refl [m] V).setCell _ (.inl (by simp))).setCell _ (.inl (by simp))).drew).setCell _ (.inl (by simp))).setCell _ (.inl (by simp))
  have hres : GK ((((V.setCell ⟨m, 10, none⟩ (.int .i32 1)).setCell ⟨m, 12, none⟩ (.bool true)).drew.setCell ⟨m, 9, none⟩ (.int .u32 1)).setCell ⟨m, 10, none⟩ (.int .i32 0)) m xd { M with broken := true } P := hbx
  have HR := Lib.hid (And.intro hres (hc1.trans hcc (fun g hg => .inl hg)))
  clear hres hcc hbx hb
  go_enter Tryz.func202, Tryz.ntmps202
  go_wp2_with fail
  refine hdo.mono ?_
  rintro e w2 ⟨rfl, rfl⟩
  go_wp2
  exact bodyPost_end (v := .tuple #[]) (by simp [results, go_sem]) rfl ⟨rfl, HR.out⟩
 | true =>
  rw [hb] at c9
  simp only [if_true] at c9
  have hdo := Once.do_done ⟨m, 9, none⟩ 1 (by omega) (.func (.func 245) #[] #[.pointer (some ⟨w.heap.size, 0, none⟩)]) V c9
  have hres : GK V m xd { M with broken := true } P := by
   have e : ({ M with broken := true } : Gs) = M := by cases M; simp at hb; simp [hb]
   rw [e]
   exact h1
  have HR := Lib.hid (And.intro hres hc1)
  clear hres hb
  go_enter Tryz.func202, Tryz.ntmps202
  go_wp2_with fail
  refine hdo.mono ?_
  rintro e w2 ⟨rfl, hw2⟩
  obtain rfl := hw2.symm
  go_wp2
  exact bodyPost_end (v := .tuple #[]) (by simp [results, go_sem]) rfl ⟨rfl, HR.out⟩
structure Vrow (w : World) (X : Dw) (m : Nat) (P : Sl) (fs : List (Int × Int)) : Prop where
 row : Row w.heap.size w P.a P.n 2 (fcells fs)
 nc : P.n ≤ P.c
 cm : P.c ≤ maxLen
 nb : P.n ≤ 10000
 away : ∀ j, j < (fcells fs).length → ∀ a, P.a = some a → a.block ≠ m ∧ a.block ∉ X.foot
section
variable {w w' : World} {X X' : Dw} {m : Nat} {P : Sl} {fs : List (Int × Int)}
theorem row_chg {B n size : Nat} {A : Option Addr} {xs : List Value} {F : List Nat} (h : Chg F w w') (r : Row B w A n size xs) (hB : B ≤ w.heap.size) (hF : ∀ j, j < xs.length → ∀ a, A = some a → a.block ∉ F) : Row B w' A n size xs :=
 ⟨r.len, fun j hj => let ⟨a, e, b, c⟩ := r.cell j hj; ⟨a, e, b, (h.cell (p := a.add j) (by rw [add_block]; omega) (by rw [add_block]; exact hF j hj a e)).trans c⟩⟩
theorem Vrow.below (h : Vrow w X m P fs) (hb : Below w.heap.size w w') : Vrow w' X m P fs := ⟨(h.row.below hb).up hb.size, h.nc, h.cm, h.nb, h.away⟩
theorem Vrow.turn (h : Vrow w X m P fs) (c : Chg [m] w w') : Vrow w' X m P fs := ⟨(row_chg c h.row (Nat.le_refl _) (fun j hj a ha hm => (h.away j hj a ha).1 (List.mem_singleton.1 hm))).up c.size, h.nc, h.cm, h.nb, h.away⟩
theorem Vrow.step (h : Vrow w X m P fs) (c : Chg X.foot w w') (hf : ∀ g ∈ X'.foot, g ∈ X.foot ∨ w.heap.size ≤ g) : Vrow w' X' m P fs :=
 ⟨(row_chg c h.row (Nat.le_refl _) (fun j hj a ha => (h.away j hj a ha).2)).up c.size, h.nc, h.cm, h.nb, fun j hj a ha => ⟨(h.away j hj a ha).1, fun hm => by
  rcases hf _ hm with h1 | h1
  ·exact (h.away j hj a ha).2 h1
  ·obtain ⟨a', e, hb, _⟩ := h.row.cell j hj
   rw [ha] at e
   injection e with e
   subst e
   omega⟩⟩
end
structure Gst (P : Sl) (m : Nat) (X : Dw) (w : World) (S : Sd) (M : Gs) (w' : World) (X' : Dw) : Prop where
 acc : Acc [m] X w S w' X'
 man : GK w' m X.d M P
 row : Vrow w' X' m P M.v.files
 lt : m < w.heap.size
 out : m ∉ X.foot
 ng : NG ≤ m
variable {P P1 : Sl} {m : Nat} {X X1 : Dw} {w w1 w2 : World} {S S1 : Sd} {M M1 : Gs}
theorem Gst.start (h : Dm w X S) (hm : GK w m X.d M P) (hr : Vrow w X m P M.v.files) (ho : m ∉ X.foot) (hn : NG ≤ m) : Gst P m X w S M w X := ⟨Acc.start h, hm, hr, hm.lt, ho, hn⟩
theorem Gst.away (h : Gst P m X w S M w1 X1) : m ∉ X1.foot := fun hm => by
 rcases h.acc.f m hm with h1 | h1
 ·exact h.out h1
 ·have := h.lt
  omega
theorem Gst.below (h : Gst P m X w S M w1 X1) (hb : Below w1.heap.size w1 w2) : Gst P m X w S M w2 X1 := ⟨h.acc.below hb, h.man.below hb, h.row.below hb, h.lt, h.out, h.ng⟩
theorem Gst.step (h : Gst P m X w S M w1 X1) (hu : UpdM X1 w1 w2 S1) : ∃ X2, Gst P m X w S1 M w2 X2 := by
 obtain ⟨X2, e, hd, hc, hf⟩ := hu
 refine ⟨X2, ⟨e.trans h.acc.e, hd, h.acc.c.trans hc (fun g hg => ?_), fun g hg => ?_⟩, h.man.chg hc h.away, h.row.step hc hf, h.lt, h.out, h.ng⟩
 ·rcases h.acc.f g hg with h1 | h1
  ·exact .inl (List.mem_append_right _ h1)
  ·exact .inr h1
 ·rcases hf g hg with h1 | h1
  ·exact h.acc.f g h1
  ·exact .inr (Nat.le_trans h.acc.c.size h1)
theorem Gst.turn (h : Gst P m X w S M w1 X1) (c : Chg [m] w1 w2) (hm : GK w2 m X.d M1 P) (hv : M1.v = M.v) : Gst P m X w S M1 w2 X1 :=
 ⟨h.acc.other c (fun g hg => by rw [List.mem_singleton.1 hg]; exact ⟨by simp, h.lt, h.out, h.ng⟩), hm, by rw [hv]; exact h.row.turn c, h.lt, h.out, h.ng⟩
theorem Gst.read (h : Gst P m X w S M w1 X1) (s : ByteArray) (hs : s.size ≤ maxLen) :
  Calls Tryz.prog 125 #[.pointer (some ⟨X.d, 0, none⟩), .string s] w1 fun e w' => ∃ A c, e = .returned (.tuple #[.slice A (S.read s.data.toList).1.length c, .int .i64 ((S.read s.data.toList).2 : Int)]) ∧ Below w1.heap.size w1 w' :=
 (h.acc.read s hs).mono fun _ _ ⟨A, c, h1, _, h2⟩ => ⟨A, c, h1, h2⟩
theorem Gst.write (h : Gst P m X w S M w1 X1) (s : ByteArray) (hs : s.size ≤ maxLen) (A : Option Addr) (k c : Nat) (b : List UInt8) (hk : k ≤ 1099511627776) (hl : S.load ≤ 1099511627776) (hr : Row w1.heap.size w1 A k 1 (bts b)) (hA : ∀ a, A = some a → a.block ∉ X1.foot) :
  Calls Tryz.prog 199 #[.pointer (some ⟨X.d, 0, none⟩), .string s, .slice A k c] w1 fun e w' => e = .returned (.int .i64 ((S.write s.data.toList b).2 : Int)) ∧ ∃ X2, Gst P m X w (S.write s.data.toList b).1 M w' X2 := by
 rw [← h.acc.e]
 exact (write_any X1 S s hs A k c b hk hl w1 h.acc.dm hr hA).mono fun _ _ ⟨h1, h2⟩ => ⟨h1, h.step h2⟩
theorem Gst.append (h : Gst P m X w S M w1 X1) (s : ByteArray) (hs : s.size ≤ maxLen) (A : Option Addr) (k c : Nat) (b : List UInt8) (hk : k ≤ 1099511627776) (hr : Row w1.heap.size w1 A k 1 (bts b)) (hA : ∀ a, A = some a → a.block ∉ X1.foot) :
  Calls Tryz.prog 84 #[.pointer (some ⟨X.d, 0, none⟩), .string s, .slice A k c] w1 fun e w' => e = .returned (.int .i64 ((S.append s.data.toList b).2 : Int)) ∧ ∃ X2, Gst P m X w (S.append s.data.toList b).1 M w' X2 := by
 rw [← h.acc.e]
 exact (append_any X1 S s hs A k c b hk h.acc.dm.wf w1 h.acc.dm.dk hr (fun a ha e => hA a ha (by rw [e]; exact mem_foot.2 (.inl rfl)))).mono fun _ _ ⟨h1, h2⟩ => ⟨h1, h.step (h.acc.dm.upd (h.acc.dm.wf.append _ _) h2)⟩
theorem Gst.sync (h : Gst P m X w S M w1 X1) (s : ByteArray) (hs : s.size ≤ maxLen) :
  Calls Tryz.prog 173 #[.pointer (some ⟨X.d, 0, none⟩), .string s] w1 fun e w' => e = .returned (.int .i64 ((S.sync s.data.toList).2 : Int)) ∧ ∃ X2, Gst P m X w (S.sync s.data.toList).1 M w' X2 := by
 rw [← h.acc.e]
 exact (sync_any X1 S s hs h.acc.dm.wf w1 h.acc.dm.dk).mono fun _ _ ⟨h1, h2⟩ => ⟨h1, h.step (h.acc.dm.upd (h.acc.dm.wf.sync _) h2)⟩
theorem Gst.remove (h : Gst P m X w S M w1 X1) (s : ByteArray) (hs : s.size ≤ maxLen) (hl : S.load ≤ 1099511627776) :
  Calls Tryz.prog 100 #[.pointer (some ⟨X.d, 0, none⟩), .string s] w1 fun e w' => e = .returned (.int .i64 ((S.remove s.data.toList).2 : Int)) ∧ ∃ X2, Gst P m X w (S.remove s.data.toList).1 M w' X2 := by
 rw [← h.acc.e]
 exact (remove_any X1 S s hs h.acc.dm.wf hl w1 h.acc.dm.dk).mono fun _ _ ⟨h1, h2⟩ => ⟨h1, h.step (h.acc.dm.upd (h.acc.dm.wf.remove _) h2)⟩
theorem Gst.rename (h : Gst P m X w S M w1 X1) (s u : ByteArray) (hs : s.size ≤ maxLen) (hu : u.size ≤ maxLen) (hl : S.load ≤ 1099511627776) :
  Calls Tryz.prog 201 #[.pointer (some ⟨X.d, 0, none⟩), .string s, .string u] w1 fun e w' => e = .returned (.int .i64 ((S.rename s.data.toList u.data.toList).2 : Int)) ∧ ∃ X2, Gst P m X w (S.rename s.data.toList u.data.toList).1 M w' X2 := by
 rw [← h.acc.e]
 exact (rename_any X1 S s u hs hu h.acc.dm.wf hl w1 h.acc.dm.dk).mono fun _ _ ⟨h1, h2⟩ => ⟨h1, h.step (h.acc.dm.upd (h.acc.dm.wf.rename _ _) h2)⟩
theorem Gst.syncDir (h : Gst P m X w S M w1 X1) :
  Calls Tryz.prog 174 #[.pointer (some ⟨X.d, 0, none⟩)] w1 fun e w' => e = .returned (.int .i64 ((S.syncDir).2 : Int)) ∧ ∃ X2, Gst P m X w (S.syncDir).1 M w' X2 := by
 rw [← h.acc.e]
 exact (syncDir_any X1 S h.acc.dm.wf w1 h.acc.dm.dk).mono fun _ _ ⟨h1, h2⟩ => ⟨h1, h.step (h.acc.dm.upd h.acc.dm.wf.syncDir h2)⟩
theorem Gst.break_ (h : Gst P m X w S M w1 X1) : Calls Tryz.prog 202 #[.pointer (some ⟨m, 0, none⟩)] w1 fun e w' => e = .returned (.tuple #[]) ∧ Gst P m X w S { M with broken := true } w' X1 :=
 (gbreak_any m X.d M P w1 h.man).mono fun _ _ ⟨h1, h2, h3⟩ => ⟨h1, h.turn h3 h2 rfl⟩
theorem Gst.trans {X2 : Dw} {S2 : Sd} {M2 : Gs} (h : Gst P m X w S M w1 X1) (k : Gst P1 m X1 w1 S2 M2 w2 X2) : Gst P1 m X w S2 M2 w2 X2 := by
 refine ⟨⟨k.acc.e.trans h.acc.e, k.acc.dm, h.acc.c.trans k.acc.c (fun g hg => ?_), fun g hg => ?_⟩, by rw [← h.acc.e]; exact k.man, k.row, h.lt, h.out, h.ng⟩
 ·rcases List.mem_append.1 hg with h1 | h1
  ·exact .inl (List.mem_append_left _ h1)
  ·rcases h.acc.f g h1 with h2 | h2
   ·exact .inl (List.mem_append_right _ h2)
   ·exact .inr h2
 ·rcases k.acc.f g hg with h1 | h1
  ·exact h.acc.f g h1
  ·exact .inr (Nat.le_trans h.acc.c.size h1)
theorem Gst.anew (h : Gst P m X w S M w1 X1) : Gst P m X1 w1 S M w1 X1 := Gst.start h.acc.dm (by rw [h.acc.e]; exact h.man) h.row h.away h.ng
def GLeft (P : Sl) (m : Nat) (X : Dw) (w : World) (R : Sd × Gs × Nat) (e : Ending) (w' : World) : Prop := e = .returned (.int .i64 (R.2.2 : Int)) ∧ ∃ P' X', Gst P' m X w R.1 R.2.1 w' X' ∧ (P' = P ∨ ∀ a, P'.a = some a → w.heap.size ≤ a.block)
theorem GLeft.mk_ {S2 : Sd} {M2 : Gs} {er : Nat} {R : Sd × Gs × Nat} (hR : R = (S2, M2, er)) {X2 : Dw} (h : Gst P m X w S2 M2 w1 X2) : GLeft P m X w R (.returned (.int .i64 (er : Int))) w1 := by
 subst hR
 exact ⟨rfl, P, X2, h, .inl rfl⟩
end
section
open Go Go.RowKit
variable {B n : Nat} {w w' : World} {A : Option Addr}
def Fixed (F : List Nat) (w : World) (p : World → Prop) : Prop := ∀ w', Chg F w w' → p w'
theorem Fixed.now {F : List Nat} {p : World → Prop} (h : Fixed F w p) : p w := h w (Chg.refl F w)
theorem Fixed.step {F G : List Nat} {p : World → Prop} (h : Fixed F w p) (c : Chg F w w') (hG : ∀ g ∈ G, g ∈ F ∨ w.heap.size ≤ g) : Fixed G w' p := fun _ k => h _ (c.trans k hG)
theorem Fixed.below {F : List Nat} {p : World → Prop} (h : Fixed F w p) (c : Below w.heap.size w w') : Fixed F w' p := h.step (Chg.of_below c F) fun _ h => .inl h
theorem Fixed.and {F : List Nat} {p q : World → Prop} (h : Fixed F w p) (k : Fixed F w q) : Fixed F w fun w => p w ∧ q w := fun w' c => ⟨h w' c, k w' c⟩
theorem Fixed.mono {F : List Nat} {p q : World → Prop} (h : Fixed F w p) (k : ∀ w, p w → q w) : Fixed F w q := fun w' c => k w' (h w' c)
theorem Fixed.row {F : List Nat} {sz : Nat} {vs : List Value} (h : Row B w A n sz vs) (hB : B ≤ w.heap.size) (hF : ∀ j, j < vs.length → ∀ a, A = some a → a.block ∉ F) : Fixed F w fun w => Row B w A n sz vs :=
 fun _ c => row_chg c h hB hF
end
section
open Go Go.RowKit Go.Shelf
structure Mst (m : Nat) (X : Dw) (w : World) (S : Sd) (M : Ms) (w' : World) (X' : Dw) : Prop where
 acc : Acc [m] X w S w' X'
 man : MK w' m X.d M
 lt : m < w.heap.size
 out : m ∉ X.foot
 ng : NG ≤ m
variable {m : Nat} {X X1 : Dw} {w w1 w2 : World} {S S1 : Sd} {M M1 : Ms}
theorem Mst.start (h : Dm w X S) (hm : MK w m X.d M) (ho : m ∉ X.foot) (hn : NG ≤ m) : Mst m X w S M w X := ⟨Acc.start h, hm, hm.lt, ho, hn⟩
theorem Mst.away (h : Mst m X w S M w1 X1) : m ∉ X1.foot := fun hm => by
 rcases h.acc.f m hm with h1 | h1
 ·exact h.out h1
 ·have := h.lt
  omega
theorem Mst.below (h : Mst m X w S M w1 X1) (hb : Below w1.heap.size w1 w2) : Mst m X w S M w2 X1 := ⟨h.acc.below hb, h.man.below hb, h.lt, h.out, h.ng⟩
theorem Mst.step (h : Mst m X w S M w1 X1) (hu : UpdM X1 w1 w2 S1) : ∃ X2, Mst m X w S1 M w2 X2 := by
 obtain ⟨X2, hs⟩ := h.acc.step hu
 obtain ⟨_, _, _, hc, _⟩ := hu
 exact ⟨X2, hs, h.man.chg hc h.away, h.lt, h.out, h.ng⟩
theorem Mst.turn (h : Mst m X w S M w1 X1) (c : Chg [m] w1 w2) (hm : MK w2 m X.d M1) : Mst m X w S M1 w2 X1 :=
 ⟨h.acc.other c (fun g hg => by rw [List.mem_singleton.1 hg]; exact ⟨by simp, h.lt, h.out, h.ng⟩), hm, h.lt, h.out, h.ng⟩
theorem Mst.read (h : Mst m X w S M w1 X1) (s : ByteArray) (hs : s.size ≤ maxLen) :
  Calls Tryz.prog 125 #[.pointer (some ⟨X.d, 0, none⟩), .string s] w1 fun e w' => ∃ A c, e = .returned (.tuple #[.slice A (S.read s.data.toList).1.length c, .int .i64 ((S.read s.data.toList).2 : Int)]) ∧ Below w1.heap.size w1 w' :=
 (h.acc.read s hs).mono fun _ _ ⟨A, c, h1, _, h2⟩ => ⟨A, c, h1, h2⟩
theorem Mst.write (h : Mst m X w S M w1 X1) (s : ByteArray) (hs : s.size ≤ maxLen) (A : Option Addr) (k c : Nat) (b : List UInt8) (hk : k ≤ 1099511627776) (hl : S.load ≤ 1099511627776) (hr : Row w1.heap.size w1 A k 1 (bts b)) (hA : ∀ a, A = some a → a.block ∉ X1.foot) :
  Calls Tryz.prog 199 #[.pointer (some ⟨X.d, 0, none⟩), .string s, .slice A k c] w1 fun e w' => e = .returned (.int .i64 ((S.write s.data.toList b).2 : Int)) ∧ ∃ X2, Mst m X w (S.write s.data.toList b).1 M w' X2 := by
 rw [← h.acc.e]
 exact (write_any X1 S s hs A k c b hk hl w1 h.acc.dm hr hA).mono fun _ _ ⟨h1, h2⟩ => ⟨h1, h.step h2⟩
theorem Mst.append (h : Mst m X w S M w1 X1) (s : ByteArray) (hs : s.size ≤ maxLen) (A : Option Addr) (k c : Nat) (b : List UInt8) (hk : k ≤ 1099511627776) (hr : Row w1.heap.size w1 A k 1 (bts b)) (hA : ∀ a, A = some a → a.block ∉ X1.foot) :
  Calls Tryz.prog 84 #[.pointer (some ⟨X.d, 0, none⟩), .string s, .slice A k c] w1 fun e w' => e = .returned (.int .i64 ((S.append s.data.toList b).2 : Int)) ∧ ∃ X2, Mst m X w (S.append s.data.toList b).1 M w' X2 := by
 rw [← h.acc.e]
 exact (append_any X1 S s hs A k c b hk h.acc.dm.wf w1 h.acc.dm.dk hr (fun a ha e => hA a ha (by rw [e]; exact mem_foot.2 (.inl rfl)))).mono fun _ _ ⟨h1, h2⟩ => ⟨h1, h.step (h.acc.dm.upd (h.acc.dm.wf.append _ _) h2)⟩
theorem Mst.sync (h : Mst m X w S M w1 X1) (s : ByteArray) (hs : s.size ≤ maxLen) :
  Calls Tryz.prog 173 #[.pointer (some ⟨X.d, 0, none⟩), .string s] w1 fun e w' => e = .returned (.int .i64 ((S.sync s.data.toList).2 : Int)) ∧ ∃ X2, Mst m X w (S.sync s.data.toList).1 M w' X2 := by
 rw [← h.acc.e]
 exact (sync_any X1 S s hs h.acc.dm.wf w1 h.acc.dm.dk).mono fun _ _ ⟨h1, h2⟩ => ⟨h1, h.step (h.acc.dm.upd (h.acc.dm.wf.sync _) h2)⟩
theorem Mst.remove (h : Mst m X w S M w1 X1) (s : ByteArray) (hs : s.size ≤ maxLen) (hl : S.load ≤ 1099511627776) :
  Calls Tryz.prog 100 #[.pointer (some ⟨X.d, 0, none⟩), .string s] w1 fun e w' => e = .returned (.int .i64 ((S.remove s.data.toList).2 : Int)) ∧ ∃ X2, Mst m X w (S.remove s.data.toList).1 M w' X2 := by
 rw [← h.acc.e]
 exact (remove_any X1 S s hs h.acc.dm.wf hl w1 h.acc.dm.dk).mono fun _ _ ⟨h1, h2⟩ => ⟨h1, h.step (h.acc.dm.upd (h.acc.dm.wf.remove _) h2)⟩
theorem Mst.rename (h : Mst m X w S M w1 X1) (s u : ByteArray) (hs : s.size ≤ maxLen) (hu : u.size ≤ maxLen) (hl : S.load ≤ 1099511627776) :
  Calls Tryz.prog 201 #[.pointer (some ⟨X.d, 0, none⟩), .string s, .string u] w1 fun e w' => e = .returned (.int .i64 ((S.rename s.data.toList u.data.toList).2 : Int)) ∧ ∃ X2, Mst m X w (S.rename s.data.toList u.data.toList).1 M w' X2 := by
 rw [← h.acc.e]
 exact (rename_any X1 S s u hs hu h.acc.dm.wf hl w1 h.acc.dm.dk).mono fun _ _ ⟨h1, h2⟩ => ⟨h1, h.step (h.acc.dm.upd (h.acc.dm.wf.rename _ _) h2)⟩
theorem Mst.syncDir (h : Mst m X w S M w1 X1) :
  Calls Tryz.prog 174 #[.pointer (some ⟨X.d, 0, none⟩)] w1 fun e w' => e = .returned (.int .i64 ((S.syncDir).2 : Int)) ∧ ∃ X2, Mst m X w (S.syncDir).1 M w' X2 := by
 rw [← h.acc.e]
 exact (syncDir_any X1 S h.acc.dm.wf w1 h.acc.dm.dk).mono fun _ _ ⟨h1, h2⟩ => ⟨h1, h.step (h.acc.dm.upd h.acc.dm.wf.syncDir h2)⟩
theorem Mst.break_ (h : Mst m X w S M w1 X1) : Calls Tryz.prog 202 #[.pointer (some ⟨m, 0, none⟩)] w1 fun e w' => e = .returned (.tuple #[]) ∧ Mst m X w S { M with broken := true } w' X1 :=
 (break_any m X.d M w1 h.man).mono fun _ _ ⟨h1, h2, h3⟩ => ⟨h1, h.turn h3 h2⟩
theorem Mst.trans {X2 : Dw} {S2 : Sd} {M2 : Ms} (h : Mst m X w S M w1 X1) (k : Mst m X1 w1 S2 M2 w2 X2) : Mst m X w S2 M2 w2 X2 := by
 refine ⟨⟨k.acc.e.trans h.acc.e, k.acc.dm, h.acc.c.trans k.acc.c (fun g hg => ?_), fun g hg => ?_⟩, by rw [← h.acc.e]; exact k.man, h.lt, h.out, h.ng⟩
 ·rcases List.mem_append.1 hg with h1 | h1
  ·exact .inl (List.mem_append_left _ h1)
  ·rcases h.acc.f g h1 with h2 | h2
   ·exact .inl (List.mem_append_right _ h2)
   ·exact .inr h2
 ·rcases k.acc.f g hg with h1 | h1
  ·exact h.acc.f g h1
  ·exact .inr (Nat.le_trans h.acc.c.size h1)
theorem Mst.anew (h : Mst m X w S M w1 X1) : Mst m X1 w1 S M w1 X1 := Mst.start h.acc.dm (by rw [h.acc.e]; exact h.man) h.away h.ng
def Left (m : Nat) (X : Dw) (w : World) (R : Sd × Ms × Nat) (e : Ending) (w' : World) : Prop := e = .returned (.int .i64 (R.2.2 : Int)) ∧ ∃ X', Mst m X w R.1 R.2.1 w' X'
theorem Left.mk_ {S2 : Sd} {M2 : Ms} {er : Nat} {R : Sd × Ms × Nat} (hR : R = (S2, M2, er)) {X2 : Dw} (h : Mst m X w S2 M2 w1 X2) : Left m X w R (.returned (.int .i64 (er : Int))) w1 := by
 subst hR
 exact ⟨rfl, X2, h⟩
theorem recB_len (v : Bv) : (Mw.recB v).length ≤ 200 := by
 have h1 := Pn.put_len v.g
 have h2 := Pn.put_len v.f
 have h3 := Pn.put_len v.c
 have h4 := Pn.put_len v.a
 have h5 := Pn.put_len v.l
 have h6 := Pn.put_len 0
 simp only [Mw.recB, Fr.put_length, Bv.bytes, Ed.bytes, Pn.list, List.length_append, List.map_nil, List.flatMap_nil, List.length_nil, Int.toNat_natCast]
 omega
theorem headB_len (n : Int) : (Mw.headB n).length ≤ 200 := by
 have h1 := Pn.put_len n.toNat
 simp only [Mw.headB, Fr.put_length]
 omega
def sCur : ByteArray := ⟨#[99, 117, 114, 114, 101, 110, 116]⟩
def sTemp : ByteArray := ⟨#[99, 117, 114, 114, 101, 110, 116, 46, 116, 109, 112]⟩
def sMan : ByteArray := ⟨#[109, 97, 110]⟩
theorem sCur_list : sCur.data.toList = Mw.kCur := rfl
theorem sTemp_list : sTemp.data.toList = Mw.kTemp := rfl
theorem sMan_list : sMan.data.toList = Mn.kMan := rfl
theorem numV_eq (o : Option Int) : numV o = .tuple #[.int .i64 (o.getD 0), .bool o.isSome] := by cases o <;> rfl
theorem number_range (s : List UInt8) : ∃ k : Nat, (Mn.number s Mn.kMan).getD 0 = (k : Int) ∧ k ≤ 1073741824 := by
 cases h : Mn.number s Mn.kMan with
 | none => exact ⟨0, rfl, by omega⟩
 | some v =>
  have hs : s ≠ [] := fun e => by
   subst e
   unfold Mn.number at h
   rw [if_neg (by decide)] at h
   cases h
  have := Mn.number_fits h hs
  exact ⟨v.toNat, by simp; omega, by omega⟩
end
section
open Go Go.RowKit
def put2 (f : Int × Int) : List UInt8 := Pn.put f.1.toNat ++ Pn.put f.2.toNat
theorem plist_len (ns : List Nat) : (Pn.list ns).length ≤ 10 + ns.length * 10 := by
 have h1 := (Pn.put_len ns.length).2
 have h2 := flat_put_len ns
 simp only [Pn.list, List.length_append]
 omega
theorem may_parts {e : Ed} (h : e.may = true) : e.drop.length ≤ 40 ∧ e.add.length ≤ 40 ∧ 0 ≤ e.log ∧ e.log ≤ 1073741824 ∧ e.floor ≤ 281474976710656 ∧ e.cert ≤ 281474976710656 ∧ e.at_ ≤ 281474976710656 ∧ e.lease ≤ 281474976710656 ∧
  (∀ n ∈ e.drop, 1 ≤ n ∧ n ≤ 1073741824) ∧ (∀ f ∈ e.add, 0 ≤ f.1 ∧ f.1 ≤ 3 ∧ 1 ≤ f.2 ∧ f.2 ≤ 1073741824) := by
 simp only [Ed.may, four4, Bool.and_eq_true, decide_eq_true_eq] at h
 obtain ⟨⟨⟨⟨⟨h1, h2⟩, h3⟩, h4⟩, h5⟩, h6⟩ := h
 refine ⟨h1, h2, h3.1, h3.2, h4.1.1.1, h4.1.1.2, h4.1.2, h4.2, fun n hn => ?_, fun f hf => ?_⟩
 ·have := List.all_eq_true.1 h5 n hn
  simpa [isNum] using this
 ·have := List.all_eq_true.1 h6 f hf
  simp only [isFile, isNum, Bool.and_eq_true, decide_eq_true_eq] at this
  exact ⟨this.2.1, this.2.2, this.1.1, this.1.2⟩
theorem eput_gen (A : Option Addr) (N c0 : Nat) (b : List UInt8) (e : Ed) (D : Option Addr) (m d : Nat) (A2 : Option Addr) (n c : Nat) (w : World) (hgood : e.may = true) (hrd : Row w.heap.size w D m 1 (icells e.drop)) (hra : Row w.heap.size w A2 n 2 (fcells e.add))
  (hN : N ≤ 400000000) (hNc : N ≤ c0) (hc : c0 ≤ maxLen) (hr : Row w.heap.size w A N 1 (bts b)) :
  Calls Tryz.prog 197 #[.slice A N c0, e.val D m d A2 n c] w fun x w' => ∃ A' K c', x = .returned (.tuple #[.slice A' K c', .int .i64 0]) ∧
   w'.ownsRow w.heap.size 5 1 (.slice A' K c') K (bts (b ++ e.rec_)) ∧ K ≤ c' ∧ c' ≤ maxLen ∧ Below w.heap.size w w' := by
 have hdl := hrd.ilen
 have hal := hra.flen
 obtain ⟨hp1, hp2, hp3, hp4, hp5, hp6, hp7, hp8, hp9, hp10⟩ := may_parts hgood
 have hbl0 := Ed.bytes_len e hgood
 have hmay := fun W (h : Below w.heap.size w W) => may_gen e D m d A2 n c W (by omega) (by omega) ((hrd.below h).up h.size) ((hra.below h).up h.size)
 rw [hgood] at hmay
 have hrec : e.rec_ = Fr.put 6 e.bytes := rfl
 have hbyt : e.bytes = Pn.list (e.drop.map Int.toNat) ++ Pn.put e.add.length ++ e.add.flatMap put2 ++ [e.log.toNat, e.floor, e.cert, e.at_, e.lease].flatMap Pn.put := by
  simp [Ed.bytes]
  rfl
 rw [hrec]
 generalize e.bytes = EB at *
 obtain ⟨ds, fs, G, F, C, AA, L⟩ := e
 simp only at hdl hal hp1 hp2 hp3 hp4 hp5 hp6 hp7 hp8 hp9 hp10 hbyt hrd hra
 unfold Ed.val at hmay ⊢
 simp only at hmay ⊢
 obtain ⟨g, rfl⟩ : ∃ g : Nat, G = (g : Int) := ⟨G.toNat, by omega⟩
 rw [Int.toNat_natCast, hal] at hbyt
 have HM := Lib.hid hmay
 have HBY := Lib.hid hbyt
 have HBL := Lib.hid hbl0
 have H9 := Lib.hid hp9
 have H10 := Lib.hid hp10
 clear hmay hbyt hbl0 hp9 hp10 hrec hgood
 have hnw : IntKind.u64.wrap (n : Int) = (n : Int) := by rw [IntKind.wrap_u64]; omega
 have hgw : IntKind.u64.wrap (g : Int) = (g : Int) := by rw [IntKind.wrap_u64]; omega
 obtain ⟨j0, hj0, hj1, hj2, hj3⟩ := info_parts (show (Tryz.prog.info? 25).map (fun i => (i.zero, i.size, i.bytes)) = some (some (.int .u64 0), 1, 8) by kernel_rfl)
 go_enter Tryz.func197, Tryz.ntmps197
 have hb0 := (Below.refl w.heap.size w).alloc (Nat.le_refl _) (.cells #[.slice D m d, .slice A2 n c, .int .i64 (g : Int), .int .u64 (F : Int), .int .u64 (C : Int), .int .u64 (AA : Int), .int .u64 (L : Int)] 163)
 have hx0 := BoxO.new w #[.slice D m d, .slice A2 n c, .int .i64 (g : Int), .int .u64 (F : Int), .int .u64 (C : Int), .int .u64 (AA : Int), .int .u64 (L : Int)] 163
 go_wp2_with fail
 refine (HM.out _ hb0).mono ?_
 rintro x w1 ⟨rfl, hb1⟩
 have hx1 := hx0.below hb1
 have hbz := later_ hb0 hb1
 have hsz1 : w.heap.size + 1 ≤ w1.heap.size := by have := hb1.size; simp at this; omega
 clear hb0 hb1 hx0 HM
 have p0 := hx1.cell 0
 simp only [gE0] at p0
 go_wp2_with fail
 go_loopw [6, 20] (fun s x wr => ∃ (k : Nat) (A' : Option Addr) (cc : Nat), k ≤ m ∧ s = .slice A' k cc ∧ x = .int .i64 (k : Int) ∧ wr.ownsRow (w.heap.size + 1) 25 1 (.slice A' k cc) k (u64v ((ds.take k).map Int.toNat)) ∧
  BoxO wr 163 w.heap.size [.slice D m d, .slice A2 n c, .int .i64 (g : Int), .int .u64 (F : Int), .int .u64 (C : Int), .int .u64 (AA : Int), .int .u64 (L : Int)] ∧ Below w.heap.size w wr ∧ w.heap.size + 1 ≤ wr.heap.size) (fun _ x _ => m - (intOf x).toNat)
 case atStart => exact ⟨0, none, 0, Nat.zero_le _, rfl, rfl, World.ownsRow_nil _ _ _ _, hx1, hbz, hsz1⟩
 case round =>
  obtain ⟨k, A', cc, hk, rfl, rfl, hown, hx, hbl, hsz⟩ := hrel
  clear hx1 hbz hsz1 p0
  by_cases hlt : k < m
  ·obtain ⟨da, hl, rfl, hdb, hdc⟩ := (hrd.below hbl).int_ hlt
   have hxr := H9.out ds[k] (List.getElem_mem hl)
   have htk : ds.take (k + 1) = ds.take k ++ [ds[k]] := (List.take_append_getElem hl).symm
   generalize ds[k] = x at *
   obtain ⟨q, rfl⟩ : ∃ q : Nat, x = (q : Int) := ⟨x.toNat, by omega⟩
   have HT := Lib.hid htk
   clear htk hl
   have hqw : IntKind.u64.wrap (q : Int) = (q : Int) := by rw [IntKind.wrap_u64]; omega
   have hrow := Row.new (n := 1) (size := 1) wr #[.int .u64 (q : Int)] 25 rfl
   go_wp2_with (at_builtin; refine stop_in ?_)
   refine stop_out (wpList_app rfl (.tmp 24) (.tmp 27) _ rfl (w.heap.size + 1) 25 j0 _ 1 8 Tryz.underlying286 hj0 hj1 hj2 hj3 rfl (by omega) (wr.alloc (.cells #[.int .u64 (q : Int)] 25)) (Below.refl _ _) (by simp; omega) (.slice A' k cc) k (u64v ((ds.take k).map Int.toNat)) rfl (hown.alloc _) (wr.heap.size + 1) _ 1 1 [.int .u64 (q : Int)] rfl hrow (by simp [Value.oneCell']) (k + 1) _ rfl rfl (by unfold maxLen; omega) (by omega) ?_)
   intro A3 c3 w3 ho3 hb3 hg3 hc3 hm3
   have hx3 : BoxO w3 _ _ _ := (hb3.block _ (by omega)).trans (hx.alloc _)
   have hbl3 := (hbl.alloc hbl.size (.cells #[.int .u64 (q : Int)] 25)).trans (hb3.mono (by omega))
   have hsz3 : w.heap.size + 1 ≤ w3.heap.size := by have := hb3.size; simp at this; omega
   clear hown hx hbl hb3 hg3 hrow
   go_wp2_with fail
   go_roundw
   case rel =>
    refine ⟨k + 1, A3, c3, by omega, rfl, by go_num, ?_, hx3, hbl3, hsz3⟩
    rw [HT.out]
    simpa [u64v] using ho3
   case measure => simp [intOf]; omega
  ·obtain rfl : m = k := by omega
   have hns : (ds.take m).map Int.toNat = ds.map Int.toNat := by rw [List.take_of_length_le (by omega)]
   rw [hns] at hown
   obtain ⟨ns, hnse⟩ : ∃ ns, ns = ds.map Int.toNat := ⟨_, rfl⟩
   rw [← hnse] at hown
   have hnsl : ns.length = m := by rw [hnse, List.length_map, hdl]
   have hns64 : ∀ x ∈ ns, x < 18446744073709551616 := by
    intro x hx
    rw [hnse] at hx
    obtain ⟨y, hy, rfl⟩ := List.mem_map.1 hx
    have := H9.out y hy
    omega
   have hby := HBY.out
   rw [← hnse] at hby
   have HBY2 := Lib.hid hby
   have hrow := (Row.own hown).drew
   have hll := plist_len ns
   have hpl := (Pn.put_len n).2
   have HR := Lib.hid hrow
   have HN := Lib.hid hns64
   have hxlt := hx.lt
   have hc1 := hx.cell 1
   simp only [gE0, gE1] at hc1
   have hd1 : ∀ w2, Below wr.heap.size wr.drew w2 → w2.cell? ⟨w.heap.size, 1, none⟩ = some (.slice A2 n c) := fun w2 h => (h.cell (p := ⟨w.heap.size, 1, none⟩) hxlt).trans hc1
   have HD1 := Lib.hid hd1
   have HLL := Lib.hid hll
   have HPL := Lib.hid hpl
   have HNL := Lib.hid hnsl
   clear hns hnse hns64 hby HBY hrow hll hpl hnsl hd1 hown
   go_upto_region 9 with (fail)
   go_cut [9] (fun s wx => ∃ A3 M3 c3, s = .slice A3 M3 c3 ∧ wx.ownsRow w.heap.size 5 1 (.slice A3 M3 c3) M3 (bts (Pn.list ns ++ Pn.put n)) ∧ M3 ≤ 500 ∧ M3 ≤ c3 ∧ c3 ≤ maxLen ∧ Below wr.heap.size wr wx)
   case first =>
    go_region_with (first
     | (go_at_call 244; refine (list_any none 0 0 [] A' m cc ns _ (by omega) (by omega) Row.nil_ HR.out HN.out).mono ?_; rintro e w2 ⟨A3, M3, c3, rfl, ho3, hM3, hc3, hb3⟩; have q1 := HD1.out w2 hb3)
     | (go_at_call 200; refine (put_any _ _ _ ([] ++ Pn.list ns) n (by omega) _ (by have h1 := ho3.1; rw [bts_length, List.nil_append] at h1; have := HLL.out; have := HNL.out; omega) (Row.own ho3)).mono ?_; rintro e w3 ⟨A4, c4, rfl, ho4, hc4, hm4, hb4⟩))
    all_goals
     go_wp2_with fail
     go_meet
     refine ⟨_, _, _, rfl, own_base ho4 (Nat.le_trans hbl.size hb3.size : w.heap.size ≤ w2.heap.size), ?_, hc4, hm4, ((Below.refl wr.heap.size wr).drew.trans hb3).trans (hb4.mono hb3.size)⟩
     have h1 := ho4.1
     have h2 := HLL.out
     have h3 := HPL.out
     have h4 := HNL.out
     rw [bts_length, List.nil_append, List.length_append] at h1
     omega
   case rest =>
    obtain ⟨A3, M3, c3, rfl, ho3, hM3, hc3, hm3, hb3⟩ := hcut
    have hx3 := hx.below hb3
    have hbl3 := later_ hbl hb3
    have hsz3 : w.heap.size + 1 ≤ wc.heap.size := by have := hb3.size; omega
    clear hx hbl hb3 HD1 HR hc1 hsz HN
    have p1 := hx3.cell 1
    simp only [gE0, gE1] at p1
    go_wp2_with fail
    go_loopw [9, 40] (fun s x wr => ∃ (k : Nat) (A' : Option Addr) (M cc : Nat), k ≤ n ∧ s = .slice A' M cc ∧ x = .int .i64 (k : Int) ∧ wr.ownsRow w.heap.size 5 1 (.slice A' M cc) M (bts (Pn.list ns ++ Pn.put n ++ (fs.take k).flatMap put2)) ∧ M ≤ 500 + 20 * k ∧ M ≤ cc ∧ cc ≤ maxLen ∧
     BoxO wr 163 w.heap.size [.slice D m d, .slice A2 n c, .int .i64 (g : Int), .int .u64 (F : Int), .int .u64 (C : Int), .int .u64 (AA : Int), .int .u64 (L : Int)] ∧ Below w.heap.size w wr) (fun _ x _ => n - (intOf x).toNat)
    case atStart => exact ⟨0, A3, M3, c3, Nat.zero_le _, rfl, rfl, by simpa using ho3, by omega, hc3, hm3, hx3, hbl3⟩
    case round =>
     obtain ⟨k, A5, M5, c5, hk, rfl, rfl, ho5, hM5, hc5, hm5, hx5, hbl5⟩ := hrel
     clear ho3 hx3 hbl3 hsz3 p1
     by_cases hlt2 : k < n
     ·obtain ⟨fa, hl, rfl, hfb, f0, f1⟩ := (hra.below hbl5).file hlt2
      have hxr := H10.out fs[k] (List.getElem_mem hl)
      have htk : fs.take (k + 1) = fs.take k ++ [fs[k]] := (List.take_append_getElem hl).symm
      generalize fs[k] = x at *
      obtain ⟨x0, x1⟩ := x
      simp only at hxr f0 f1
      obtain ⟨lv, rfl⟩ : ∃ q : Nat, x0 = (q : Int) := ⟨x0.toNat, by omega⟩
      obtain ⟨nm, rfl⟩ : ∃ q : Nat, x1 = (q : Int) := ⟨x1.toNat, by omega⟩
      have HT := Lib.hid htk
      have hlw : IntKind.u64.wrap (lv : Int) = (lv : Int) := by rw [IntKind.wrap_u64]; omega
      have hnmw : IntKind.u64.wrap (nm : Int) = (nm : Int) := by rw [IntKind.wrap_u64]; omega
      have hxF := BoxO.new wr #[.int .i64 (lv : Int), .int .i64 (nm : Int)] 166
      have hrW : Row _ _ A5 M5 1 _ := ((Row.own ho5).alloc (Nat.le_refl _) (.cells #[.int .i64 (lv : Int), .int .i64 (nm : Int)] 166)).drew
      have hbA := (Below.refl wr.heap.size wr).alloc (Nat.le_refl _) (.cells #[.int .i64 (lv : Int), .int .i64 (nm : Int)] 166)
      clear htk hl ho5
      go_wp2_with fail
      change Code.wp _ _ _ _ (wr.alloc (.cells #[.int .i64 (lv : Int), .int .i64 (nm : Int)] 166))
      have hx7 := hx5.alloc (.cells #[.int .i64 (lv : Int), .int .i64 (nm : Int)] 166)
      have hbl7 := later_ hbl5 hbA
      generalize wr.alloc (.cells #[.int .i64 (lv : Int), .int .i64 (nm : Int)] 166) = V at *
      have hVlt := hxF.lt
      have v0 := hxF.cell 0
      have v1 := hxF.cell 1
      simp only [gE0, gE1] at v0 v1
      have hd : ∀ w2, Below V.heap.size V.drew w2 → w2.cell? ⟨wr.heap.size, 0, none⟩ = some (.int .i64 (lv : Int)) ∧ w2.cell? ⟨wr.heap.size, 1, none⟩ = some (.int .i64 (nm : Int)) := fun w2 h => ⟨(h.cell (p := ⟨wr.heap.size, 0, none⟩) hVlt).trans v0, (h.cell (p := ⟨wr.heap.size, 1, none⟩) hVlt).trans v1⟩
      have HD := Lib.hid hd
      have HR5 := Lib.hid (hrW.up (B' := V.drew.heap.size) (Nat.le_of_lt hVlt))
      have hl1 := (Pn.put_len lv).2
      have hl2 := (Pn.put_len nm).2
      have HL1 := Lib.hid hl1
      have HL2 := Lib.hid hl2
      clear hd hrW hbA hx5 hbl5 hl1 hl2 f0 f1
      go_region_with (first
       | (go_at_call 200; (with_reducible refine (put_any A5 M5 c5 (Pn.list ns ++ Pn.put n ++ (fs.take k).flatMap put2) lv (by omega) _ (by omega) HR5.out).mono ?_); rintro e w2 ⟨A6, c6, rfl, ho6, hc6, hm6, hb6⟩; obtain ⟨q0, q1⟩ := HD.out w2 hb6)
       | (go_at_call 200; (with_reducible refine (put_any A6 _ c6 (Pn.list ns ++ Pn.put n ++ (fs.take k).flatMap put2 ++ Pn.put lv) nm (by omega) _ (by have := HL1.out; omega) (Row.own ho6)).mono ?_); rintro e w3 ⟨A7, c7, rfl, ho7, hc7, hm7, hb7⟩))
      all_goals
       have hbe := ((Below.refl V.heap.size V).drew.trans hb6).trans (hb7.mono hb6.size)
       have hx8 := hx7.below hbe
       have hbl8 := later_ hbl7 hbe
       have ho8 := own_base (base' := w.heap.size) ho7 (Nat.le_trans hbl7.size hb6.size)
       clear hb6 hb7 hbe hx7 hbl7 ho6 ho7 hxF HR5 HD v0 v1
       go_wp2_with fail
       go_roundw
       case rel =>
        refine ⟨k + 1, A7, _, c7, by omega, rfl, by go_num, ?_, by have h1 := HL1.out; have h2 := HL2.out; omega, hc7, hm7, hx8, hbl8⟩
        rw [HT.out]
        simpa [put2, List.append_assoc] using ho8
       case measure => simp [intOf]; omega
     ·obtain rfl : n = k := by omega
      have hfs : fs.take n = fs := List.take_of_length_le (by omega)
      rw [hfs] at ho5
      have p2 := hx5.cell 2
      have p3 := hx5.cell 3
      have p4 := hx5.cell 4
      have p5 := hx5.cell 5
      have p6 := hx5.cell 6
      simp only [gE0, gE1] at p2 p3 p4 p5 p6
      have hM6 : M5 ≤ 1300 := by omega
      clear hfs hx5 hlt2 hM5
      go_wp2_with fail
      have hb5 := hbl5.alloc hbl5.size (.cells #[.int .u64 (g : Int), .int .u64 (F : Int), .int .u64 (C : Int), .int .u64 (AA : Int), .int .u64 (L : Int)] 25)
      have hrow := u64_row wr 25 #[.int .u64 (g : Int), .int .u64 (F : Int), .int .u64 (C : Int), .int .u64 (AA : Int), .int .u64 (L : Int)] [g, F, C, AA, L] 5 rfl rfl
      have ho6 := ho5.alloc (.cells #[.int .u64 (g : Int), .int .u64 (F : Int), .int .u64 (C : Int), .int .u64 (AA : Int), .int .u64 (L : Int)] 25)
      clear p2 p3 p4 p5 p6 ho5 hbl5
      change Code.wp _ _ _ _ (wr.alloc (.cells #[.int .u64 (g : Int), .int .u64 (F : Int), .int .u64 (C : Int), .int .u64 (AA : Int), .int .u64 (L : Int)] 25))
      generalize wr.alloc (.cells #[.int .u64 (g : Int), .int .u64 (F : Int), .int .u64 (C : Int), .int .u64 (AA : Int), .int .u64 (L : Int)] 25) = V at *
      generalize wr.heap.size = hp at *
      have hns : ∀ n ∈ [g, F, C, AA, L], n < 18446744073709551616 := by
       intro n hn
       simp at hn
       omega
      have hby := HBY2.out
      have hnl : [g, F, C, AA, L].length = 5 := rfl
      have HN := Lib.hid hns
      have HNL := Lib.hid hnl
      generalize hnsd : [g, F, C, AA, L] = vs at *
      have HBY3 := Lib.hid hby
      have HD := Lib.hid hnsd
      clear hns hby HBY2 hnl hnsd hgw hnw
      obtain ⟨LL, hLL⟩ : ∃ LL, LL = Pn.list ns ++ Pn.put n ++ fs.flatMap put2 := ⟨_, rfl⟩
      rw [← hLL] at ho6
      have hby4 := HBY3.out
      rw [← hLL] at hby4
      have HBY4 := Lib.hid hby4
      clear hLL hby4 HBY3
      go_loopw [9, 67] (fun s x wr3 => ∃ (k : Nat) (A' : Option Addr) (M c' : Nat), k ≤ 5 ∧ s = .slice A' M c' ∧ x = .int .i64 (k : Int) ∧ M ≤ 1300 + 10 * k ∧ wr3.ownsRow w.heap.size 5 1 (.slice A' M c') M (bts (LL ++ (vs.take k).flatMap Pn.put)) ∧ M ≤ c' ∧ c' ≤ maxLen ∧ Below V.heap.size V wr3) (fun _ x _ => 5 - (intOf x).toNat)
      case atStart => exact ⟨0, A5, M5, c5, by omega, rfl, rfl, by omega, by simpa using ho6, hc5, hm5, Below.refl _ _⟩
      case round =>
       obtain ⟨k, A', M, c', hk, rfl, rfl, hM, hown, hMc, hcm, hbV⟩ := hrel
       by_cases hlt2 : k < 5
       ·obtain ⟨aa, hl, he, hab, hc⟩ := (hrow.below hbV).un hlt2
        injection he with he
        subst he
        have hxl := HN.out vs[k] (List.getElem_mem hl)
        have htk : vs.take (k + 1) = vs.take k ++ [vs[k]] := (List.take_append_getElem hl).symm
        generalize vs[k] = x at *
        have HT := Lib.hid htk
        clear htk
        rw [base_add] at hc
        go_wp2_with fail
        refine (put_any A' M c' _ x hxl wr (by omega) (Row.own hown)).mono ?_
        rintro e w2 ⟨A3, c3, rfl, ho3, hc3, hm3, hb3⟩
        have hpl := (Pn.put_len x).2
        have ho3' := own_base ho3 (Nat.le_trans hb5.size hbV.size)
        have HPL := Lib.hid hpl
        clear hpl ho3
        go_wp2_with fail
        go_roundw
        case rel =>
         refine ⟨k + 1, A3, M + (Pn.put x).length, c3, by omega, rfl, by go_num, by have h := HPL.out; omega, ?_, hc3, hm3, later_ hbV hb3⟩
         rw [HT.out]
         simpa [List.append_assoc] using ho3'
        case measure => simp [intOf]; omega
       ·obtain rfl : k = 5 := by omega
        have hfin : LL ++ (vs.take 5).flatMap Pn.put = EB := by
         rw [List.take_of_length_le (by have := HNL.out; omega)]
         exact HBY4.out.symm
        rw [hfin] at hown
        have hbw := hb5.trans (hbV.mono hb5.size)
        have hEB := HBL.out
        clear hfin hrow ho6 hbV hb5
        have hq := Row.own hown
        clear hown
        go_wp2_with fail
        refine (fput_any A N c0 b 6 A' M c' _ wr (by omega) hNc hc ((hr.below hbw).up hbw.size) (by decide) (by decide) (by omega) hMc hcm hq).mono ?_
        rintro e w2 ⟨A3, K, c3, rfl, ho3, hc3, hm3, hb3⟩
        have ho3' := own_base ho3 hbw.size
        have hbz := later_ hbw hb3
        clear ho3 hb3
        go_wp2
        exact bodyPost_ret (v := .tuple #[.slice A3 K c3, .int .i64 0]) (by simp [results, go_sem]) rfl ⟨A3, K, c3, rfl, ho3', hc3, hm3, hbz⟩
end
end Go.Proofs.YtdkjoigpahafmaaGreatDoor
