/- Texts RefM, RefT, RefS, LawN, ItemsOpen, NodL, LawNS in one. No conditions. -/
import Derived.Test.YtdkjoigpahafmaaGreatDoorBunAA
import Derived.Test.YtdkjoigpahafmaaGreatDoorBunAQ
import Derived.Test.YtdkjoigpahafmaaGreatDoorBunAJ
import Derived.Test.YtdkjoigpahafmaaGreatDoorBunAI
import Derived.Test.YtdkjoigpahafmaaGreatDoorBunAO
import Derived.Test.YtdkjoigpahafmaaGreatDoorBunAM

set_option linter.unusedSimpArgs false
set_option linter.unusedVariables false
set_option maxRecDepth 100000
set_option maxHeartbeats 16000000
namespace Go.Proofs.YtdkjoigpahafmaaGreatDoor
section
open Go Go.RowKit Go.Lib
structure RSt (base : Nat) (w : World) (l : List It) (x : It) (k : Nat) (A : Option Addr) (q c : Nat) (pt : Bool) : Prop where
 own : w.ownsRow base 27 5 (.slice A q c) q (itc ((l.take k).foldl (rstep x) ([], false)).1)
 len : q = ((l.take k).foldl (rstep x) ([], false)).1.length
 put : pt = ((l.take k).foldl (rstep x) ([], false)).2
 free : hidden (l.take k) x = false
 best : beaten (l.take k) x = false
theorem rstep_len (x : It) : ∀ (l : List It) (r : List It × Bool), (l.foldl (rstep x) r).1.length ≤ r.1.length + 2 * l.length
 | [], r => by simp
 | y :: l, r => by
  have h1 := rstep_len x l (rstep x r y)
  have h2 : (rstep x r y).1.length ≤ r.1.length + 2 := by
   unfold rstep
   split
   ·omega
   ·simp only
    split <;> split <;> simp
  simp only [List.foldl_cons, List.length_cons]
  omega
theorem fold_take {x : It} {l : List It} {k : Nat} (h : k < l.length) : (l.take (k + 1)).foldl (rstep x) ([], false) = rstep x ((l.take k).foldl (rstep x) ([], false)) l[k] := by
 rw [List.take_succ_eq_append_getElem h, List.foldl_append]
 rfl
theorem hid_take {x : It} {l : List It} {k : Nat} (h : k < l.length) : hidden (l.take (k + 1)) x = (hidden (l.take k) x || It.hides l[k] x) ∧ beaten (l.take (k + 1)) x = (beaten (l.take k) x || (It.same l[k] x && !x.wins l[k])) := by
 unfold hidden beaten
 rw [List.take_succ_eq_append_getElem h, List.any_append, List.any_append]
 simp
theorem hid_off {x : It} {l : List It} {k : Nat} (h : hidden (l.take k) x = true ∨ beaten (l.take k) x = true) : add l x = l := by
 have : hidden l x = true ∨ beaten l x = true := by
  rcases h with h | h
  ·left
   unfold hidden at *
   obtain ⟨t, ht, h2⟩ := List.any_eq_true.1 h
   exact List.any_eq_true.2 ⟨t, List.mem_of_mem_take ht, h2⟩
  ·right
   unfold beaten at *
   obtain ⟨t, ht, h2⟩ := List.any_eq_true.1 h
   exact List.any_eq_true.2 ⟨t, List.mem_of_mem_take ht, h2⟩
 unfold add
 rw [if_pos]
 rcases this with h | h <;> simp [h]
def RaddPost (w : World) (A : Option Addr) (R : List It) (e : Ending) (w' : World) : Prop := ∃ A' k c', e = .returned (.slice A' k c') ∧ k = R.length ∧ Row w'.heap.size w' A' k 5 (itc R) ∧ (A' = A ∨ ∀ a, A' = some a → w.heap.size ≤ a.block ∧ a.block < w'.heap.size) ∧ Below w.heap.size w w'
theorem RaddPost.same {w w' : World} {A : Option Addr} {n c : Nat} {l R : List It} (hr : Row w.heap.size w A n 5 (itc l)) (hb : Below w.heap.size w w') (e : R = l) : RaddPost w A R (.returned (.slice A n c)) w' := ⟨A, n, c, rfl, by rw [e]; exact hr.itlen.symm, by rw [e]; exact (hr.below hb).up hb.size, .inl rfl, hb⟩
theorem RaddPost.own {w w' : World} {B : Nat} {A A' : Option Addr} {q c : Nat} {R L : List It} (h : w'.ownsRow B 27 5 (.slice A' q c) q (itc L)) (hB : w.heap.size ≤ B) (hb : Below w.heap.size w w') (e : R = L) : RaddPost w A R (.returned (.slice A' q c)) w' := by
 subst e
 obtain ⟨A3, c3, hv, hqc, hqm, hlow⟩ := own_form h
 injection hv with e1 e2 e3
 subst e1 e3
 exact ⟨_, _, _, rfl, (Row.own h).itlen.symm, Row.own h, .inr fun a ha => ⟨Nat.le_trans hB (hlow a ha).1, (hlow a ha).2.1⟩, hb⟩
theorem box_at {w : World} {g : Nat} {x : It} (h : BoxO w 27 g x.cells) : w.cell? ⟨g, 0, none⟩ = some (.int .i64 x.s) ∧ w.cell? ⟨g, 1, none⟩ = some (.int .i64 x.k) ∧ w.cell? ⟨g, 2, none⟩ = some (.int .u64 (x.t : Int)) ∧ w.cell? ⟨g, 3, none⟩ = some (.int .u64 (x.v : Int)) ∧ w.cell? ⟨g, 4, none⟩ = some (.int .i64 x.x) := by
 have b0 := h.cell 0
 have b1 := h.cell 1
 have b2 := h.cell 2
 have b3 := h.cell 3
 have b4 := h.cell 4
 simp only [It.cells, gE0, gE1] at b0 b1 b2 b3 b4
 exact ⟨b0, b1, b2, b3, b4⟩
theorem rstep_eq (x y : It) (r : List It × Bool) (h : x.same y = false) : rstep x r y = ((if (!r.2 && x.less y) = true then r.1 ++ [x] else r.1) ++ (if x.hides y = true then [] else [y]), r.2 || (!r.2 && x.less y)) := by
 unfold rstep
 rw [if_neg (by simp [h])]
 cases h1 : r.2 <;> cases h2 : x.less y <;> cases h3 : x.hides y <;> simp [h1]
theorem own_far {W : World} {base : Nat} {e : TypeId} {size n : Nat} {v : Value} {xs : List Value} (h : W.ownsRow base e size v n xs) {g : Nat} (hg : W.heap.size ≤ g) : some g ≠ v.ownBlock := by
 rcases h.2 with ⟨rfl, _⟩ | ⟨g2, cap, cur, rfl, hb, hgb, _⟩
 ·simp [Value.ownBlock]
 ·intro e2
  have h1 := (Array.getElem?_eq_some_iff.1 hgb).1
  simp only [Value.ownBlock, Option.some.injEq] at e2
  omega
theorem radd_any (A : Option Addr) (n c : Nat) (l : List It) (x : It) (w : World) (hn : n ≤ 100000) (hS : Stt l) (hx : x.ok = true) (hr : Row w.heap.size w A n 5 (itc l)) :
  Calls Tryz.prog 53 #[.slice A n c, x.val] w (RaddPost w A (add l x)) := by
 have hnn := hr.itlen
 obtain ⟨i0, hi0, hz0, hz1, hz2⟩ := info_parts info_item
 have hbW := (Below.refl w.heap.size w).alloc (Nat.le_refl _) (.cells #[.int .i64 x.s, .int .i64 x.k, .int .u64 (x.t : Int), .int .u64 (x.v : Int), .int .i64 x.x] 27)
 have hbx : BoxO (w.alloc (.cells #[.int .i64 x.s, .int .i64 x.k, .int .u64 (x.t : Int), .int .u64 (x.v : Int), .int .i64 x.x] 27)) 27 w.heap.size x.cells := BoxO.new w #[.int .i64 x.s, .int .i64 x.k, .int .u64 (x.t : Int), .int .u64 (x.v : Int), .int .i64 x.x] 27
 have HFIN : Hid (∀ L b, (l.foldl (rstep x) ([], false)) = (L, b) → hidden l x = false → beaten l x = false → add l x = if b = true then L else L ++ [x]) := Lib.hid fun L b h h1 h2 => by
  have := radd_fin hS hx h1 h2
  rw [h] at this
  exact this.symm
 have hsame := fun (w' : World) (hb : Below w.heap.size w w') (k : Nat) (hh : hidden (l.take k) x = true ∨ beaten (l.take k) x = true) => RaddPost.same (c := c) hr hb (hid_off hh)
 obtain ⟨R, hR⟩ : ∃ R, R = add l x := ⟨_, rfl⟩
 have HSAME : Hid (∀ w', Below w.heap.size w w' → ∀ k, hidden (l.take k) x = true ∨ beaten (l.take k) x = true → RaddPost w A R (.returned (.slice A n c)) w') := Lib.hid (by rw [hR]; exact hsame)
 rw [← hR] at HFIN ⊢
 have hm0 := fun (y : It) W => rhides_any y x W
 have hm1 := fun (y : It) W => rsame_any x y W
 have hm2 := fun (y : It) W => rwins_any x y W
 have hm3 := fun (y : It) W => rless_any x y W
 have hm4 := fun (y : It) W => rhides_any x y W
 unfold It.val at hm0 hm1 hm2 hm3 hm4 ⊢
 have HC := Lib.hid (And.intro hm0 (And.intro hm1 (And.intro hm2 (And.intro hm3 hm4))))
 have hrW := (hr.below hbW).up hbW.size
 obtain ⟨g, hg⟩ : ∃ g, g = w.heap.size := ⟨_, rfl⟩
 obtain ⟨W, hW⟩ : ∃ W, W = w.alloc (.cells #[.int .i64 x.s, .int .i64 x.k, .int .u64 (x.t : Int), .int .u64 (x.v : Int), .int .i64 x.x] 27) := ⟨_, rfl⟩
 rw [← hW] at hbW hbx hrW
 rw [← hg] at hbx
 have hgs : Hid (w.heap.size + 1 = W.heap.size) := Lib.hid (by rw [hW]; simp)
 have HRW := Lib.hid hrW
 have HBW := Lib.hid hbW
 have HBX := Lib.hid hbx
 clear hR hsame hm0 hm1 hm2 hm3 hm4 hr hbW hbx hrW hS
 go_enter Tryz.func53, Tryz.ntmps53
 go_wp2_with fail
 rw [← hW, ← hg]
 have HWW := Lib.hid (And.intro hW hg)
 clear hW hg
 go_wp2_with fail
 go_loopw [5, 6, 7] (fun s p i wr => ∃ (k q : Nat) (A2 : Option Addr) (c2 : Nat) (pt : Bool), k ≤ n ∧ s = .slice A2 q c2 ∧ p = .bool pt ∧ i = .int .i64 (k : Int) ∧ Hid (RSt W.heap.size wr l x k A2 q c2 pt) ∧ Below W.heap.size W wr) (fun _ _ i _ => n - (intOf i).toNat)
 case atStart => exact ⟨0, 0, none, 0, false, Nat.zero_le _, rfl, rfl, rfl, Lib.hid ⟨World.ownsRow_nil _ _ _ _, rfl, rfl, rfl, rfl⟩, Below.refl _ _⟩
 case round =>
  obtain ⟨k, q, A2, c2, pt, hk, rfl, rfl, rfl, HQ, hbl⟩ := hrel
  by_cases hlt : k < n
  ·obtain ⟨p, hl, rfl, hbk, c0, c1, c2', c3, c4⟩ := (HRW.out.below hbl).it hlt
   have hft := fold_take (x := x) hl
   have hht := hid_take (x := x) hl
   have hql : q ≤ 200000 := by
    have h1 := rstep_len x (l.take k) ([], false)
    rw [← HQ.out.len, List.length_take] at h1
    simp only [List.length_nil] at h1
    omega
   generalize l[k] = y at *
   obtain ⟨r, hr⟩ : ∃ r, r = (l.take k).foldl (rstep x) ([], false) := ⟨_, rfl⟩
   obtain ⟨hown, hlen, hput, hfree, hbest⟩ := HQ.out
   rw [← hr] at hft hown hlen hput
   rw [hfree, hbest, Bool.false_or, Bool.false_or] at hht
   have HT := Lib.hid (And.intro hft hht)
   have HOWN := Lib.hid hown
   have HLEN := Lib.hid hlen
   have HPUT := Lib.hid hput
   have hwk : IntKind.i64.wrap (k : Int) = (k : Int) := IntWalk.i64_in _ (by omega)
   have hyb : BoxO (wr.alloc (.cells #[.int .i64 y.s, .int .i64 y.k, .int .u64 (y.t : Int), .int .u64 (y.v : Int), .int .i64 y.x] 27)) 27 wr.heap.size y.cells := BoxO.new wr #[.int .i64 y.s, .int .i64 y.k, .int .u64 (y.t : Int), .int .u64 (y.v : Int), .int .i64 y.x] 27
   have hxb := (HBX.out.below hbl).alloc (.cells #[.int .i64 y.s, .int .i64 y.k, .int .u64 (y.t : Int), .int .u64 (y.v : Int), .int .i64 y.x] 27)
   have hb1 := (Below.refl wr.heap.size wr).alloc (Nat.le_refl _) (.cells #[.int .i64 y.s, .int .i64 y.k, .int .u64 (y.t : Int), .int .u64 (y.v : Int), .int .i64 y.x] 27)
   obtain ⟨V, hV⟩ : ∃ V, V = wr.alloc (.cells #[.int .i64 y.s, .int .i64 y.k, .int .u64 (y.t : Int), .int .u64 (y.v : Int), .int .i64 y.x] 27) := ⟨_, rfl⟩
   have hbV := later_ hbl hb1
   have hown1 := own_below hown hb1
   have hfar := own_far hown (Nat.le_refl _)
   rw [← hV] at hyb hxb hbV hown1
   obtain ⟨gy, hgy⟩ : ∃ gy, gy = wr.heap.size := ⟨_, rfl⟩
   rw [← hgy] at hyb hfar
   have HKB := Lib.hid (fun w' (hb : Below V.heap.size V w') => And.intro (box_at (hxb.below hb)) (box_at (hyb.below hb)))
   have HYB := Lib.hid hyb
   have HFAR := Lib.hid hfar
   have HO1 := Lib.hid hown1
   have HBV := Lib.hid hbV
   obtain ⟨x0, x1, x2, x3, x4⟩ := box_at hxb
   rw [hV] at x0 x1 x2 x3 x4
   clear hr hft hht hown hlen hput hfree hbest hyb hxb hb1 hbV hown1 hfar HQ
   go_wp2_with fail
   rw [← hV, ← hgy]
   have HVV := Lib.hid (And.intro hV hgy)
   clear hV hgy x0 x1 x2 x3 x4 c0 c1 c2' c3 c4
   refine (HC.out.1 y V).mono ?_
   rintro e w1 ⟨rfl, hb1⟩
   obtain ⟨⟨x0, x1, x2, x3, x4⟩, y0, y1, y2, y3, y4⟩ := HKB.out w1 hb1
   cases hh0 : y.hides x with
   | true =>
    have HZ := Lib.hid (HSAME.out w1 (HBW.out.trans ((later_ HBV.out hb1).mono HBW.out.size)) (k + 1) (.inl (by rw [HT.out.2.1]; exact hh0)))
    clear hh0 hb1
    go_wp2
    go_ret
    exact HZ.out
   | false =>
   have HT1 : Hid (hidden (l.take (k + 1)) x = false) := Lib.hid (by rw [HT.out.2.1]; exact hh0)
   clear hh0
   go_wp2_with fail
   refine (HC.out.2.1 y w1).mono ?_
   rintro e w2 ⟨rfl, hb2⟩
   have hb2 := later_ hb1 hb2
   clear x0 x1 x2 x3 x4 y0 y1 y2 y3 y4 hb1
   obtain ⟨⟨x0, x1, x2, x3, x4⟩, y0, y1, y2, y3, y4⟩ := HKB.out w2 hb2
   cases hs : x.same y with
   | true =>
    have HS := Lib.hid hs
    clear hs
    go_wp2_with fail
    refine (HC.out.2.2.1 y w2).mono ?_
    rintro e w3 ⟨rfl, hb3⟩
    have hb3 := later_ hb2 hb3
    cases hwn : x.wins y with
    | false =>
     have HZ := Lib.hid (HSAME.out w3 (HBW.out.trans ((later_ HBV.out hb3).mono HBW.out.size)) (k + 1) (.inr (by rw [HT.out.2.2, hwn, Bool.not_false, Bool.and_true]; exact (show y.same x = true by rw [It.same_iff]; have := It.same_iff.1 HS.out; omega))))
     clear hwn hb3 hb2
     go_wp2
     go_ret
     exact HZ.out
    | true =>
     have HR1 : Hid (RSt W.heap.size w3 l x (k + 1) A2 q c2 pt) := Lib.hid (by
      have e1 : rstep x r y = r := by unfold rstep; rw [if_pos HS.out]
      refine ⟨?_, ?_, ?_, HT1.out, ?_⟩
      ·rw [HT.out.1, e1]; exact own_below HO1.out hb3
      ·rw [HT.out.1, e1]; exact HLEN.out
      ·rw [HT.out.1, e1]; exact HPUT.out
      ·rw [HT.out.2.2, hwn]; simp)
     have hbz := later_ HBV.out hb3
     clear hwn hb3 hb2
     go_wp2
     go_roundw
     case rel => exact ⟨k + 1, q, A2, c2, pt, by omega, rfl, rfl, by go_num, HR1, hbz⟩
     case measure => simp [intOf]; omega
   | false =>
   have HS := Lib.hid hs
   have HT2 : Hid (beaten (l.take (k + 1)) x = false) := Lib.hid (by rw [HT.out.2.2]; rw [show y.same x = false by cases h : y.same x with
    | false => rfl
    | true => rw [It.same_iff] at h; have : x.same y = true := by { rw [It.same_iff]; omega }; rw [hs] at this; cases this]; rfl)
   clear hs
   go_upto_region 12 with (fail)
   go_cut [37] (fun v wx => ∃ b : Bool, v = .bool b ∧ Hid (b = (!pt && x.less y)) ∧ Below V.heap.size V wx)
   case first =>
    cases pt with
    | true =>
     go_wp2_with fail
     go_meet
     exact ⟨false, rfl, Lib.hid rfl, hb2⟩
    | false =>
     go_wp2_with fail
     refine (HC.out.2.2.2.1 y w2).mono ?_
     rintro e w3 ⟨rfl, hb3⟩
     have hb3 := later_ hb2 hb3
     clear x0 x1 x2 x3 x4 y0 y1 y2 y3 y4 hb2
     go_wp2_with fail
     go_meet
     exact ⟨_, rfl, Lib.hid rfl, hb3⟩
   case rest =>
    obtain ⟨b, rfl, HBB, hb4⟩ := hcut
    clear x0 x1 x2 x3 x4 y0 y1 y2 y3 y4 hb2
    obtain ⟨⟨x0, x1, x2, x3, x4⟩, y0, y1, y2, y3, y4⟩ := HKB.out wc hb4
    have HX4 := Lib.hid hb4
    go_upto_if 37 with (fail)
    go_cut [5, 6] (fun s p wx => ∃ (q3 : Nat) (A3 : Option Addr) (c3 : Nat), s = .slice A3 q3 c3 ∧ p = .bool (pt || b) ∧ q3 ≤ 200001 ∧ Hid (wx.ownsRow W.heap.size 27 5 (.slice A3 q3 c3) q3 (itc (if b = true then r.1 ++ [x] else r.1)) ∧ q3 = (if b = true then r.1 ++ [x] else r.1).length) ∧ Hid (BoxO wx 27 gy y.cells) ∧ Below W.heap.size W wx)
    case first =>
     cases b with
     | false =>
      go_wp2_with fail
      go_meet
      exact ⟨q, A2, c2, rfl, by simp, by omega, Lib.hid ⟨by simpa using own_below HO1.out hb4, by simpa using HLEN.out⟩, Lib.hid (HYB.out.below hb4), later_ HBV.out hb4⟩
     | true =>
      have hbA := (Below.refl wc.heap.size wc).alloc (Nat.le_refl _) (.cells #[.int .i64 x.s, .int .i64 x.k, .int .u64 (x.t : Int), .int .u64 (x.v : Int), .int .i64 x.x] 27)
      have HR := Lib.hid (irow_box (show BoxO (wc.alloc (.cells #[.int .i64 x.s, .int .i64 x.k, .int .u64 (x.t : Int), .int .u64 (x.v : Int), .int .i64 x.x] 27)) 27 wc.heap.size x.cells from BoxO.new wc #[.int .i64 x.s, .int .i64 x.k, .int .u64 (x.t : Int), .int .u64 (x.v : Int), .int .i64 x.x] 27))
      have HO := Lib.hid (own_below (own_below HO1.out hb4) hbA)
      have HB := Lib.hid (later_ (later_ HBV.out hb4) hbA)
      have HX := Lib.hid (show itc r.1 ++ x.cells = itc (r.1 ++ [x]) by rw [itc_append]; simp [itc])
      have HY := Lib.hid ((HYB.out.below hb4).alloc (.cells #[.int .i64 x.s, .int .i64 x.k, .int .u64 (x.t : Int), .int .u64 (x.v : Int), .int .i64 x.x] 27))
      have HQ1 := Lib.hid (show q + 1 = (r.1 ++ [x]).length by rw [List.length_append, ← HLEN.out]; rfl)
      clear hbA hb4
      go_wp2_with (at_builtin; refine stop_in ?_)
      refine stop_out (wpList_app rfl (.tmp 38) (.tmp 40) _ rfl W.heap.size 27 i0 _ 5 40 Tryz.underlying24 hi0 hz0 hz1 hz2 rfl (by omega) W HB.out HB.out.size _ q (itc r.1) rfl HO.out (wc.alloc (.cells #[.int .i64 x.s, .int .i64 x.k, .int .u64 (x.t : Int), .int .u64 (x.v : Int), .int .i64 x.x] 27)).heap.size _ 1 1 x.cells rfl HR.out (fun v hv => itc_one [x] v (by simpa [itc] using hv)) (q + 1) _ rfl HX.out (by unfold maxLen; omega) (by omega) ?_)
      intro A3 c3 w5 h1 h2 h3 h4 h5
      have H5 := Lib.hid (And.intro h1 HQ1.out)
      have H6 := Lib.hid (HY.out.igrown h3 HFAR.out)
      clear h1 h3 HQ1 HX HR HO HB HY
      go_wp2
      go_meet
      exact ⟨q + 1, A3, c3, rfl, by simp, by omega, Lib.hid (by simpa using H5.out), H6, h2⟩
    case rest =>
     obtain ⟨q3, A3, c3, rfl, rfl, hq3, H5, H6, hb5⟩ := hcut
     clear x0 x1 x2 x3 x4 y0 y1 y2 y3 y4 hb4
     have HEQ := Lib.hid (rstep_eq x y r HS.out)
     have hL : (if (!r.2 && x.less y) = true then r.1 ++ [x] else r.1) = (if b = true then r.1 ++ [x] else r.1) := by rw [HBB.out, ← HPUT.out]
     rw [hL, ← HPUT.out, ← HBB.out] at HEQ
     have HPT : Hid ((pt || b) = (rstep x r y).2) := Lib.hid (by rw [HEQ.out])
     have HL1 : Hid ((if b = true then r.1 ++ [x] else r.1) ++ (if x.hides y = true then [] else [y]) = (rstep x r y).1) := Lib.hid (by rw [HEQ.out])
     generalize (if b = true then r.1 ++ [x] else r.1) = L1 at *
     generalize (pt || b) = pt1 at *
     clear hL HEQ
     obtain ⟨x0, x1, x2, x3, x4⟩ := box_at (HBX.out.below hb5)
     obtain ⟨y0, y1, y2, y3, y4⟩ := box_at H6.out
     go_wp2_with fail
     refine (HC.out.2.2.2.2 y wc).mono ?_
     rintro e w6 ⟨rfl, hb6⟩
     have hbz := later_ hb5 hb6
     clear x0 x1 x2 x3 x4 y0 y1 y2 y3 y4
     cases hh : x.hides y with
     | true =>
      have HR1 : Hid (RSt W.heap.size w6 l x (k + 1) A3 q3 c3 pt1) := Lib.hid (by
       have e1 := HL1.out
       rw [hh, if_pos rfl, List.append_nil] at e1
       refine ⟨?_, ?_, ?_, HT1.out, HT2.out⟩
       ·rw [HT.out.1, ← e1]; exact own_below H5.out.1 hb6
       ·rw [HT.out.1, ← e1]; exact H5.out.2
       ·rw [HT.out.1]; exact HPT.out)
      clear hh hb6
      go_wp2
      go_roundw
      case rel => exact ⟨k + 1, q3, A3, c3, pt1, by omega, rfl, rfl, by go_num, HR1, hbz⟩
      case measure => simp [intOf]; omega
     | false =>
      obtain ⟨y0, y1, y2, y3, y4⟩ := box_at (H6.out.below hb6)
      have hbA := (Below.refl w6.heap.size w6).alloc (Nat.le_refl _) (.cells #[.int .i64 y.s, .int .i64 y.k, .int .u64 (y.t : Int), .int .u64 (y.v : Int), .int .i64 y.x] 27)
      have HR := Lib.hid (irow_box (show BoxO (w6.alloc (.cells #[.int .i64 y.s, .int .i64 y.k, .int .u64 (y.t : Int), .int .u64 (y.v : Int), .int .i64 y.x] 27)) 27 w6.heap.size y.cells from BoxO.new w6 #[.int .i64 y.s, .int .i64 y.k, .int .u64 (y.t : Int), .int .u64 (y.v : Int), .int .i64 y.x] 27))
      have HO := Lib.hid (own_below (own_below H5.out.1 hb6) hbA)
      have HB := Lib.hid (later_ hbz hbA)
      have HX := Lib.hid (show itc L1 ++ y.cells = itc (L1 ++ [y]) by rw [itc_append]; simp [itc])
      have e1 := HL1.out
      rw [hh, if_neg (by simp)] at e1
      have HE1 := Lib.hid e1
      have HQ1 := Lib.hid (show q3 + 1 = (L1 ++ [y]).length by rw [List.length_append, ← H5.out.2]; rfl)
      clear hbA hb6 e1 hh hbz
      go_wp2_with (at_builtin; refine stop_in ?_)
      refine stop_out (wpList_app rfl (.tmp 46) (.tmp 48) _ rfl W.heap.size 27 i0 _ 5 40 Tryz.underlying24 hi0 hz0 hz1 hz2 rfl (by omega) W HB.out HB.out.size _ q3 (itc L1) rfl HO.out (w6.alloc (.cells #[.int .i64 y.s, .int .i64 y.k, .int .u64 (y.t : Int), .int .u64 (y.v : Int), .int .i64 y.x] 27)).heap.size _ 1 1 y.cells rfl HR.out (fun v hv => itc_one [y] v (by simpa [itc] using hv)) (q3 + 1) _ rfl HX.out (by unfold maxLen; omega) (by omega) ?_)
      intro A4 c4 w7 h1 h2 h3 h4 h5
      have HR1 : Hid (RSt W.heap.size w7 l x (k + 1) A4 (q3 + 1) c4 pt1) := Lib.hid (by
       refine ⟨?_, ?_, ?_, HT1.out, HT2.out⟩
       ·rw [HT.out.1, ← HE1.out]; exact h1
       ·rw [HT.out.1, ← HE1.out]; exact HQ1.out
       ·rw [HT.out.1]; exact HPT.out)
      clear h1 h3 HQ1 HX HR HO HB y0 y1 y2 y3 y4
      go_wp2
      go_roundw
      case rel => exact ⟨k + 1, q3 + 1, A4, c4, pt1, by omega, rfl, rfl, by go_num, HR1, h2⟩
      case measure => simp [intOf]; omega
  ·have hall : l.take k = l := List.take_of_length_le (by omega)
   obtain ⟨hown, hlen, hput, hfree, hbest⟩ := HQ.out
   rw [hall] at hown hlen hput hfree hbest
   have hfin := HFIN.out _ _ rfl hfree hbest
   rw [← hput] at hfin
   have hql : q ≤ 200000 := by
    have h1 := rstep_len x l ([], false)
    rw [← hlen] at h1
    simp only [List.length_nil] at h1
    omega
   generalize (l.foldl (rstep x) ([], false)).1 = L1 at *
   have hWg := HWW.out.1
   have hsz := hgs.out
   cases pt with
   | true =>
    rw [if_pos rfl] at hfin
    have HZ := Lib.hid (RaddPost.own (A := A) hown (by omega) (HBW.out.trans (hbl.mono HBW.out.size)) hfin)
    clear hown hlen hput hfree hbest hfin hall hWg hsz HQ
    go_wp2
    go_ret
    exact HZ.out
   | false =>
    rw [if_neg (by simp)] at hfin
    obtain ⟨x0, x1, x2, x3, x4⟩ := box_at (HBX.out.below hbl)
    have hbA := (Below.refl wr.heap.size wr).alloc (Nat.le_refl _) (.cells #[.int .i64 x.s, .int .i64 x.k, .int .u64 (x.t : Int), .int .u64 (x.v : Int), .int .i64 x.x] 27)
    have HR := Lib.hid (irow_box (show BoxO (wr.alloc (.cells #[.int .i64 x.s, .int .i64 x.k, .int .u64 (x.t : Int), .int .u64 (x.v : Int), .int .i64 x.x] 27)) 27 wr.heap.size x.cells from BoxO.new wr #[.int .i64 x.s, .int .i64 x.k, .int .u64 (x.t : Int), .int .u64 (x.v : Int), .int .i64 x.x] 27))
    have HO := Lib.hid (own_below hown hbA)
    have HB := Lib.hid (later_ hbl hbA)
    have HX := Lib.hid (show itc L1 ++ x.cells = itc (L1 ++ [x]) by rw [itc_append]; simp [itc])
    have HF := Lib.hid hfin
    have hle : w.heap.size ≤ W.heap.size := by omega
    clear hown hlen hput hfree hbest hfin hall hWg hsz HQ hbA
    go_wp2_with (at_builtin; refine stop_in ?_)
    refine stop_out (wpList_app rfl (.tmp 52) (.tmp 54) _ rfl W.heap.size 27 i0 _ 5 40 Tryz.underlying24 hi0 hz0 hz1 hz2 rfl (by omega) W HB.out HB.out.size _ q (itc L1) rfl HO.out (wr.alloc (.cells #[.int .i64 x.s, .int .i64 x.k, .int .u64 (x.t : Int), .int .u64 (x.v : Int), .int .i64 x.x] 27)).heap.size _ 1 1 x.cells rfl HR.out (fun v hv => itc_one [x] v (by simpa [itc] using hv)) (q + 1) _ rfl HX.out (by unfold maxLen; omega) (by omega) ?_)
    intro A3 c3 w5 h1 h2 h3 h4 h5
    have HZ := Lib.hid (RaddPost.own (A := A) h1 hle (HBW.out.trans (h2.mono HBW.out.size)) HF.out)
    clear h1 h2 h3 HR HO HB HX x0 x1 x2 x3 x4
    go_wp2
    go_ret
    exact HZ.out
end
section
open Go Go.RowKit Go.Lib
def okJoins (a b : List It) : List It := b.foldl (fun l x => if x.ok = true then add l x else l) a
theorem okJoins_eq (b : List It) : ∀ a : List It, okJoins a b = joins a b := by
 unfold okJoins joins
 induction b with
 | nil => intro a; rfl
 | cons x b ih =>
  intro a
  rw [List.foldl_cons, List.foldl_cons, ih]
  cases hx : x.ok with
  | true => rw [if_pos rfl]
  | false =>
   rw [if_neg (by simp)]
   have : add a x = a := by unfold add; simp [hx]
   rw [this]
theorem rjoin_any (A : Option Addr) (n c : Nat) (a : List It) (B : Option Addr) (m d : Nat) (b : List It) (w : World) (hsz : n + m ≤ 90000) (hS : Stt a) (ra : Row w.heap.size w A n 5 (itc a)) (rb : Row w.heap.size w B m 5 (itc b)) :
  Calls Tryz.prog 18 #[.slice A n c, .slice B m d] w (RaddPost w A (joins a b)) := by
 have hna := ra.itlen
 have hmb := rb.itlen
 have HOK := Lib.hid (rstate_any A n c a w (by omega) hS ra)
 obtain ⟨R, hR⟩ : ∃ R, R = joins a b := ⟨_, rfl⟩
 rw [← hR]
 have HR := Lib.hid hR
 have HS := Lib.hid hS
 clear hR hS
 go_enter Tryz.func18, Tryz.ntmps18
 go_wp2_with fail
 refine HOK.out.mono ?_
 rintro e w1 ⟨rfl, hb1⟩
 have ra1 := (ra.below hb1).up hb1.size
 go_wp2_with fail
 go_loopw [5, 6] (fun v i wr => ∃ (k q : Nat) (A2 : Option Addr) (c2 : Nat), k ≤ m ∧ v = .slice A2 q c2 ∧ i = .int .i64 (k : Int) ∧ Hid (RaddPost w A (joins a (b.take k)) (.returned (.slice A2 q c2)) wr) ∧ Below w.heap.size w wr) (fun _ i _ => m - (intOf i).toNat)
 case atStart => exact ⟨0, n, A, c, Nat.zero_le _, rfl, rfl, Lib.hid ⟨A, n, c, rfl, hna.symm, ra1, .inl rfl, hb1⟩, hb1⟩
 case round =>
  obtain ⟨k, q, A2, c2, hk, rfl, rfl, HQ, hbl⟩ := hrel
  clear HOK ra1 hb1
  by_cases hlt : k < m
  ·obtain ⟨p, hl, rfl, hbk, hd⟩ := (rb.below hbl).it hlt
   have hjt := joins_take (a := a) hl
   have hst := (joins_stt (b.take k) HS.out).1
   have hjl := joins_len (b.take k) a
   rw [List.length_take] at hjl
   obtain ⟨A3, q3, c3, hv, hq, hrow, hA, _⟩ := HQ.out
   injection hv with hv
   injection hv with e1 e2 e3
   subst e1 e2 e3
   have hok := fun W => rok_any b[k] W
   have hadd := fun W (hb : Below wr.heap.size wr W) (hk : (b[k]).ok = true) => radd_any A2 q c2 (joins a (b.take k)) b[k] W (by omega) hst hk ((hrow.below hb).up hb.size)
   rw [← hjt] at hadd
   have hsk : (b[k]).ok = false → joins a (b.take (k + 1)) = joins a (b.take k) := fun h => by rw [hjt]; unfold add; simp [h]
   have hkc := fun w' (hb : Below wr.heap.size wr w') => (show w'.cell? (p.add (k * 5)) = some (.int .i64 b[k].s) ∧ w'.cell? ⟨(p.add (k * 5)).block, (p.add (k * 5)).off + 1, none⟩ = some (.int .i64 b[k].k) ∧ w'.cell? ⟨(p.add (k * 5)).block, (p.add (k * 5)).off + 2, none⟩ = some (.int .u64 (b[k].t : Int)) ∧ w'.cell? ⟨(p.add (k * 5)).block, (p.add (k * 5)).off + 3, none⟩ = some (.int .u64 (b[k].v : Int)) ∧ w'.cell? ⟨(p.add (k * 5)).block, (p.add (k * 5)).off + 4, none⟩ = some (.int .i64 b[k].x) from by
    have h1 := hd.below (B := wr.heap.size) (w' := w') (Nat.lt_of_lt_of_le hbk hbl.size) hb
    exact ⟨h1.c0, h1.c1, h1.c2, h1.c3, h1.c4⟩)
   generalize b[k] = x at *
   unfold It.val at hok hadd
   have KC := Lib.hid hkc
   have HK := Lib.hid hok
   have HAD := Lib.hid hadd
   have HSK := Lib.hid hsk
   have HROW := Lib.hid (And.intro hq (And.intro hrow hA))
   have hwk : IntKind.i64.wrap (k : Int) = (k : Int) := IntWalk.i64_in _ (by omega)
   obtain ⟨c0, c1, c2', c3, c4⟩ := KC.out wr (Below.refl _ _)
   clear hkc hok hadd hsk hd hjt hst hjl hq hrow hA HQ
   go_wp2_with fail
   refine (HK.out wr).mono ?_
   rintro e w2 ⟨rfl, hb2⟩
   clear c0 c1 c2' c3 c4
   cases hx : x.ok with
   | false =>
    have hbz := later_ hbl hb2
    have HZ : Hid (RaddPost w A (joins a (b.take (k + 1))) (.returned (.slice A2 q c2)) w2) := Lib.hid ⟨A2, q, c2, rfl, by rw [HSK.out hx]; exact HROW.out.1, by rw [HSK.out hx]; exact (HROW.out.2.1.below hb2).up hb2.size, HROW.out.2.2.imp (fun z => z) (fun z a ha => ⟨(z a ha).1, Nat.lt_of_lt_of_le (z a ha).2 hb2.size⟩), hbz⟩
    clear hb2 hx
    go_wp2
    go_roundw
    case rel => exact ⟨k + 1, q, A2, c2, by omega, rfl, by go_num, HZ, hbz⟩
    case measure => simp [intOf]; omega
   | true =>
    obtain ⟨c0, c1, c2', c3, c4⟩ := KC.out w2 hb2
    have HA2 := Lib.hid (HAD.out w2 hb2 hx)
    have HB9 := Lib.hid hb2
    have hbz := later_ hbl hb2
    clear hx hb2
    go_wp2_with fail
    refine HA2.out.mono ?_
    rintro e w3 ⟨A4, q4, c4', rfl, hq4, hr4, hA4, hb4⟩
    have hbz3 := later_ hbz hb4
    have HZ : Hid (RaddPost w A (joins a (b.take (k + 1))) (.returned (.slice A4 q4 c4')) w3) := Lib.hid ⟨A4, q4, c4', rfl, hq4, hr4, by
     rcases hA4 with rfl | h
     ·exact HROW.out.2.2.imp (fun z => z) (fun z a ha => ⟨(z a ha).1, Nat.lt_of_lt_of_le (Nat.lt_of_lt_of_le (z a ha).2 HB9.out.size) hb4.size⟩)
     ·exact .inr fun a ha => ⟨Nat.le_trans hbz.size (h a ha).1, (h a ha).2⟩, hbz3⟩
    clear hb4 hq4 hr4 hA4 c0 c1 c2' c3 c4
    go_wp2
    go_roundw
    case rel => exact ⟨k + 1, q4, A4, c4', by omega, rfl, by go_num, HZ, hbz3⟩
    case measure => simp [intOf]; omega
  ·have hall : joins a (b.take k) = R := by rw [List.take_of_length_le (by omega), HR.out]
   have hz := HQ.out
   rw [hall] at hz
   have HZ := Lib.hid hz
   clear hz hall HQ
   go_wp2
   go_ret
   exact HZ.out
theorem rmay_any (A : Option Addr) (n c : Nat) (l : List It) (w : World) (hn : n ≤ 1500) (hr : Row w.heap.size w A n 5 (itc l)) :
  Calls Tryz.prog 40 #[.slice A n c] w fun e w' => e = .returned (.int .i64 (if l.all It.ok = true then 0 else 1)) ∧ Below w.heap.size w w' := by
 have hnn := hr.itlen
 obtain ⟨R, hR⟩ : ∃ R : Int, R = if l.all It.ok = true then 0 else 1 := ⟨_, rfl⟩
 rw [← hR]
 have HR := Lib.hid hR
 clear hR
 have hnl : ((2000 : Int) < (n : Int)) = False := eq_false (by omega)
 go_enter Tryz.func40, Tryz.ntmps40
 go_wp2
 go_loopw [3] (fun i wr => ∃ k : Nat, k ≤ n ∧ i = .int .i64 (k : Int) ∧ Hid ((l.take k).all It.ok = true) ∧ Below w.heap.size w wr) (fun i _ => n - (intOf i).toNat)
 case atStart => exact ⟨0, Nat.zero_le _, rfl, Lib.hid rfl, Below.refl _ _⟩
 case round =>
  obtain ⟨k, hk, rfl, HQ, hbl⟩ := hrel
  by_cases hlt : k < n
  ·obtain ⟨p, hl, rfl, hbk, c0, c1, c2', c3, c4⟩ := (hr.below hbl).it hlt
   have htk : (l.take (k + 1)).all It.ok = ((l.take k).all It.ok && (l[k]).ok) := by rw [List.take_succ_eq_append_getElem hl, List.all_append, List.all_cons, List.all_nil, Bool.and_true]
   have hal : (l[k]).ok = false → l.all It.ok = false := fun h => by
    cases h2 : l.all It.ok with
    | false => rfl
    | true => rw [List.all_eq_true] at h2; rw [h2 _ (List.getElem_mem hl)] at h; cases h
   have hok := fun W => rok_any l[k] W
   generalize l[k] = x at *
   unfold It.val at hok
   have HK := Lib.hid hok
   have HT := Lib.hid (And.intro htk hal)
   have hwk : IntKind.i64.wrap (k : Int) = (k : Int) := IntWalk.i64_in _ (by omega)
   clear hok htk hal
   go_wp2_with fail
   refine (HK.out _).mono ?_
   rintro e w2 ⟨rfl, hb2⟩
   have hbz := later_ hbl hb2
   cases hx : x.ok with
   | false =>
    have HZ : Hid (R = 1) := Lib.hid (by rw [HR.out, HT.out.2 hx]; rfl)
    clear hx hb2 c0 c1 c2' c3 c4
    go_wp2
    go_ret
    rw [HZ.out]
    exact ⟨rfl, hbz⟩
   | true =>
    have HZ : Hid ((l.take (k + 1)).all It.ok = true) := Lib.hid (by rw [HT.out.1, HQ.out, hx]; rfl)
    clear hx hb2 c0 c1 c2' c3 c4
    go_wp2
    go_roundw
    case rel => exact ⟨k + 1, by omega, by go_num, HZ, hbz⟩
    case measure => simp [intOf]; omega
  ·have HZ : Hid (R = 0) := Lib.hid (by
    have := HQ.out
    rw [List.take_of_length_le (by omega)] at this
    rw [HR.out, this]; rfl)
   go_wp2
   go_ret
   rw [HZ.out]
   exact ⟨rfl, hbl⟩
end
section
open Go Go.RowKit Go.Lib
theorem rseries_any (A : Option Addr) (n c : Nat) (l : List It) (v : Int) (w : World) (hn : n ≤ 1000000) (hr : Row w.heap.size w A n 5 (itc l)) :
  Calls Tryz.prog 21 #[.slice A n c, .int .i64 v] w (RefPost w (l.filter fun a => a.s == v)) := by
 have hnn := hr.itlen
 obtain ⟨i0, hi0, hz0, hz1, hz2⟩ := info_parts info_item
 obtain ⟨P, hP⟩ : ∃ P : It → Bool, P = fun y => y.s == v := ⟨_, rfl⟩
 have HP := Lib.hid (fun y => congrFun hP y)
 rw [← hP]
 clear hP
 go_enter Tryz.func21, Tryz.ntmps21
 go_wp2
 go_loopw [5, 6] (fun s i wr => ∃ (k q : Nat) (A2 : Option Addr) (c2 : Nat), k ≤ n ∧ s = .slice A2 q c2 ∧ i = .int .i64 (k : Int) ∧ Hid (q = ((l.take k).filter P).length ∧ wr.ownsRow w.heap.size 27 5 (.slice A2 q c2) q (itc ((l.take k).filter P))) ∧ Below w.heap.size w wr) (fun _ i _ => n - (intOf i).toNat)
 case atStart => exact ⟨0, 0, none, 0, Nat.zero_le _, rfl, rfl, Lib.hid ⟨rfl, World.ownsRow_nil _ _ _ _⟩, Below.refl _ _⟩
 case round =>
  obtain ⟨k, q, A2, c2, hk, rfl, rfl, HQ, hbl⟩ := hrel
  by_cases hlt : k < n
  ·obtain ⟨p, hl, rfl, hbk, c0, c1, c2', c3, c4⟩ := (hr.below hbl).it hlt
   have hft := filt_take (P := P) hl
   have hql : q ≤ 1000000 := by
    have h1 := HQ.out.1
    have h2 := List.length_filter_le P (l.take k)
    rw [List.length_take] at h2
    omega
   generalize l[k] = x at *
   have hb2 := HP.out x
   have hwk : IntKind.i64.wrap (k : Int) = (k : Int) := IntWalk.i64_in _ (by omega)
   by_cases hT : x.s = v
   ·rw [if_pos (by rw [hb2]; simpa using hT)] at hft
    obtain ⟨xs, xk, xt, xv, xx⟩ := x
    simp only at hT c0 c1 c2' c3 c4
    subst hT
    have hvb : BoxO (wr.alloc (.cells #[.int .i64 xs, .int .i64 xk, .int .u64 (xt : Int), .int .u64 (xv : Int), .int .i64 xx] 27)) 27 wr.heap.size (It.cells ⟨xs, xk, xt, xv, xx⟩) := BoxO.new wr #[.int .i64 xs, .int .i64 xk, .int .u64 (xt : Int), .int .u64 (xv : Int), .int .i64 xx] 27
    have hbA := (Below.refl wr.heap.size wr).alloc (Nat.le_refl _) (.cells #[.int .i64 xs, .int .i64 xk, .int .u64 (xt : Int), .int .u64 (xv : Int), .int .i64 xx] 27)
    have HR := Lib.hid (irow_box hvb)
    have HO := Lib.hid (own_below HQ.out.2 hbA)
    have HB := Lib.hid (later_ hbl hbA)
    have HX := Lib.hid (show itc ((l.take k).filter P) ++ (It.cells ⟨xs, xk, xt, xv, xx⟩) = itc ((l.take (k + 1)).filter P) by rw [hft, itc_append]; simp [itc])
    have HQ1 := Lib.hid (show q + 1 = ((l.take (k + 1)).filter P).length by rw [hft, List.length_append, ← HQ.out.1]; rfl)
    clear hft HQ hvb hbA hb2
    go_wp2_with (at_builtin; refine stop_in ?_)
    refine stop_out (wpList_app rfl (.tmp 20) (.tmp 25) _ rfl w.heap.size 27 i0 _ 5 40 Tryz.underlying24 hi0 hz0 hz1 hz2 rfl (by omega) w HB.out HB.out.size _ q (itc ((l.take k).filter P)) rfl HO.out (wr.alloc (.cells #[.int .i64 xs, .int .i64 xk, .int .u64 (xt : Int), .int .u64 (xv : Int), .int .i64 xx] 27)).heap.size _ 1 1 (It.cells ⟨xs, xk, xt, xv, xx⟩) rfl HR.out (fun v hv => itc_one [⟨xs, xk, xt, xv, xx⟩] v (by simpa [itc] using hv)) (q + 1) _ rfl HX.out (by unfold maxLen; omega) (by omega) ?_)
    intro A3 c3 w5 h1 h2 h3 h4 h5
    have H5 := Lib.hid (And.intro HQ1.out h1)
    clear h1 h3 HQ1 HX HR HO HB
    go_wp2
    go_roundw
    case rel => exact ⟨k + 1, q + 1, A3, c3, by omega, rfl, by go_num, H5.out, h2⟩
    case measure => simp [intOf]; omega
   ·rw [if_neg (by rw [hb2]; simpa using hT), List.append_nil] at hft
    have H3 := Lib.hid (show q = ((l.take (k + 1)).filter P).length ∧ wr.ownsRow w.heap.size 27 5 (.slice A2 q c2) q (itc ((l.take (k + 1)).filter P)) by rw [hft]; exact HQ.out)
    clear hft HQ hb2
    have e1 : (x.s == v) = false := by simpa using hT
    go_wp2
    go_roundw
    case rel => exact ⟨k + 1, q, A2, c2, by omega, rfl, by go_num, H3.out, hbl⟩
    case measure => simp [intOf]; omega
  ·have hall : l.take k = l := List.take_of_length_le (by omega)
   have hq := HQ.out
   rw [hall] at hq
   obtain ⟨A3, c3, hv, hqc, hqm, hlow⟩ := own_form hq.2
   injection hv with e1 e2 e3
   subst e1 e3
   have HFF := Lib.hid (And.intro hq.1 (show Its w.heap.size wr A2 q c2 (l.filter P) from ⟨Row.own hq.2, hqc, hqm, fun p hp => (hlow p hp).1⟩))
   clear hq hall hlow hqc hqm HQ
   go_wp2
   go_ret
   exact ⟨A2, q, c2, rfl, HFF.out.1, HFF.out.2, hbl⟩
end
section
open Go Go.RowKit Go.Lib Go.Shelf
variable {w w0 w1 w2 : World} {X X1 X2 : Dw} {S S1 S2 : Sd} {Y Y1 Y2 : Yw} {V V1 V2 : Sv} {nb now grace : Nat} {ni : Int}
structure NdW (w0 w : World) (X : Dw) (S : Sd) (Y : Yw) (V : Sv) (nb : Nat) (ni : Int) (now grace : Nat) : Prop where
 at_ : NdAt w X S Y V nb ni now grace
 low : ∀ g ∈ XY X Y, w0.heap.size ≤ g
 bel : Below w0.heap.size w0 w
theorem NdW.below (h : NdW w0 w X S Y V nb ni now grace) (hb : Below w.heap.size w w1) : NdW w0 w1 X S Y V nb ni now grace := ⟨h.at_.below hb, h.low, later_ h.bel hb⟩
theorem NdW.turn (h : NdW w0 w X S Y V nb ni now grace) (hn : NdAt w1 X1 S1 Y1 V1 nb ni now grace) (c : Chg (XY X Y) w w1) (f : ∀ g ∈ XY X1 Y1, g ∈ XY X Y ∨ w.heap.size ≤ g) : NdW w0 w1 X1 S1 Y1 V1 nb ni now grace :=
 ⟨hn, fun g hg => (f g hg).elim (h.low g) (Nat.le_trans h.bel.size), h.bel.trans (c.below h.bel.size h.low)⟩
theorem dm_nw {q : Int} (hq : q ≤ 1099511627776) (he : Env w) (hd : DK w1 X (Sd.new q)) (hb : Below w.heap.size w w1) (hf : ∀ g ∈ X.foot, w.heap.size ≤ g) : Dm w1 X (Sd.new q) :=
 ⟨hd, Sd.new_wf q hq, he.below hb, fun g hg => Nat.le_trans he.base (hf g hg)⟩
theorem nborn2_any {q : Int} (h1 : 500000 ≤ q) (h2 : q ≤ 1099511627776) (he : Env w) (hd : DK w1 X (Sd.new q)) (hb : Below w.heap.size w w1) (hf : ∀ g ∈ X.foot, w.heap.size ≤ g) (ni : Int) (grace : Nat) (hni : 0 ≤ ni ∧ ni < 7) (hgr : grace ≤ 1099511627776) :
  Calls Tryz.prog 13 #[.int .i64 ni, .pointer (some ⟨X.d, 0, none⟩), .int .u64 (grace : Int)] w1 fun e w' => ∃ nb X' Y S', e = .returned (.tuple #[.pointer (some ⟨nb, 0, none⟩), .int .i64 0]) ∧ NdW w w' X' S' Y Nd.v0 nb ni 0 grace ∧ Nd.NS q S' Nd.v0 0 100 ∧ w.heap.size ≤ nb := by
 obtain ⟨S', hcr, hns⟩ := Nd.born q h1 h2
 refine (nopen_any (dm_nw h2 he hd hb hf) rfl (by rw [show (Sd.new q).list = [] by simp [Sd.list, Sd.new]]; intro s hs; cases hs) (by show 0 ≤ _; omega) S' Nd.v0 hcr (by decide) (by decide) ni grace hni hgr).mono ?_
 rintro e w' ⟨nb, X', Y, rfl, e1, h3, c, f, hnb⟩
 have hlow : ∀ g ∈ XY X' Y, w.heap.size ≤ g := fun g hg => by
  rcases f g hg with z | z
  ·exact hf g z
  ·exact Nat.le_trans hb.size z
 exact ⟨nb, X', Y, S', rfl, ⟨h3, hlow, hb.trans (c.below hb.size hf)⟩, hns, Nat.le_trans hb.size hnb⟩
theorem nborn_any {q : Int} (h1 : 500000 ≤ q) (h2 : q ≤ 1099511627776) (he : Env w) (hd : DK w1 X (Sd.new q)) (hb : Below w.heap.size w w1) (hf : ∀ g ∈ X.foot, w.heap.size ≤ g) (ni : Int) (grace : Nat) (hni : 0 ≤ ni ∧ ni < 7) (hgr : grace ≤ 1099511627776) :
  Calls Tryz.prog 13 #[.int .i64 ni, .pointer (some ⟨X.d, 0, none⟩), .int .u64 (grace : Int)] w1 fun e w' => ∃ nb X' Y S', e = .returned (.tuple #[.pointer (some ⟨nb, 0, none⟩), .int .i64 0]) ∧ NdW w w' X' S' Y Nd.v0 nb ni 0 grace ∧ Nd.NS q S' Nd.v0 0 100 :=
 (nborn2_any h1 h2 he hd hb hf ni grace hni hgr).mono fun _ _ ⟨nb, X', Y, S', a, b, c, _⟩ => ⟨nb, X', Y, S', a, b, c⟩
theorem naw_any (he : Env w) : Calls Tryz.prog 22 #[] w fun e w' => e = .returned (.bool true) ∧ Below w.heap.size w w' := by
 have HDN := Lib.hid (dnew_any 1048576 w)
 have HE := Lib.hid he
 clear he
 go_enter Tryz.func22, Tryz.ntmps22
 go_wp2_with fail
 with_reducible refine HDN.out.mono ?_
 rintro e w1 ⟨X0, rfl, hdk, hb1, hfo⟩
 have hop := nborn_any (by omega) (by omega) HE.out hdk hb1 hfo 2 5 (by omega) (by omega)
 rw [show ((5 : Nat) : Int) = 5 from rfl] at hop
 have HOP := Lib.hid hop
 clear hop hdk hb1 hfo HDN
 go_wp2_with fail
 with_reducible refine HOP.out.mono ?_
 rintro e w2 ⟨nb, X, Y, S, rfl, hw, hns⟩
 have hask := hask_any hw.at_ (hns.nrm (by omega) (by omega) (by simp [Nd.v0])) 1 3 7 none 0 0 [] ⟨by simp, by simp, by simp, by simp, by simp, by simp, rfl, .inl rfl⟩ Row.nil_ (by omega)
 rw [show ((3 : Nat) : Int) = 3 from rfl, show ((7 : Nat) : Int) = 7 from rfl] at hask
 have HASK := Lib.hid hask
 have HWB := Lib.hid hw.bel
 have HLOW := Lib.hid hw.low
 clear hask hw hns HOP
 go_wp2_with fail
 with_reducible refine HASK.out.mono ?_
 rintro e w3 ⟨X1, Y1, e1, e2, h3, c3, f3, na3, g, B, n, c, rfl, ha, hg, hr, hB, hgx, hBx⟩
 have hn0 : n = 0 := by
  have := hr.itlen
  simpa [Nd.v0] using this.symm
 subst hn0
 have a0 := ha.cell 0
 have a2 := ha.cell 2
 have a3 := ha.cell 3
 have a5 := ha.cell 5
 simp only [gE0, gE1] at a0 a2 a3 a5
 have HNW := Lib.hid (nnow_any h3)
 have HB3 := Lib.hid (HWB.out.trans (c3.below HWB.out.size HLOW.out))
 clear HASK e1 e2 h3 c3 f3 na3 ha hg hr hB hgx hBx HWB HLOW
 go_wp2_with fail
 with_reducible refine HNW.out.mono ?_
 rintro e w4 ⟨rfl, rfl⟩
 go_wp2
 go_ret
 exact ⟨rfl, HB3.out⟩
end
section
open Go Go.RowKit Go.ChangeShapes Go.WideShapes Go.Deep Go.Joins
theorem row_of_items (W : World) (a : Addr) (len : Nat) (f : Nat → It) (h : ∀ i, i < len → ∀ j v, (f i).cells[j]? = some v → W.cell? (a.add (i * 5 + j)) = some v) : Row W.heap.size W (some a) len 5 (itc ((List.range len).map f)) := by
 have hl : (itc ((List.range len).map f)).length = len * 5 := by rw [itc_length]; simp
 refine ⟨hl, fun j hj => ?_⟩
 have hi : j / 5 < len := by omega
 have hm : j % 5 < 5 := Nat.mod_lt _ (by omega)
 have hg := itc_get ((List.range len).map f) (j / 5) (j % 5) (by simpa using hi) hm
 rw [show j / 5 * 5 + j % 5 = j by omega] at hg
 simp only [List.getElem_map, List.getElem_range] at hg
 have hlt : j % 5 < (f (j / 5)).cells.length := by rw [It.cells_len]; exact hm
 have hc := h (j / 5) hi (j % 5) _ (List.getElem?_eq_getElem hlt)
 rw [show j / 5 * 5 + j % 5 = j by omega] at hc
 have hb := World.block_lt_of_cell? W _ hc
 rw [add_block] at hb
 refine ⟨a, rfl, hb, ?_⟩
 rw [hc, ← List.getElem?_eq_getElem hlt, ← hg, List.getElem?_eq_getElem hj]
theorem items_arg {H : Type} {enc : TypeId × Value → H} {W : World} {base b0 : Nat} {r : Reach} {spare : Nat → Bool} {held : Bool} {v : Value} {d : DataW H} {p : List MemPlace}
  (hv : Value.okWide Tryz.prog W r b0 24 v) (h : DataW.Trod enc Tryz.prog W base spare held 24 v d p) :
  ∃ (A : Option Addr) (n c : Nat) (l : List It), v = .slice A n c ∧ n ≤ c ∧ c ≤ maxLen ∧ Row W.heap.size W A n 5 (itc l) ∧ ∀ x ∈ l, x.fit := by
 obtain ⟨fuel, hf⟩ := h
 obtain ⟨a, n, c, rfl⟩ := okWide_slice Tryz.underlying24 hv
 have hc : (Value.slice a n c).cells.toList = [.slice a n c] := rfl
 rw [hc] at hf
 rcases open_slice_fields Tryz.underlying24 Tryz.underlying27 (by kernel_rfl) (by kernel_rfl) hf with hcs | ⟨a, l, c, m, hcs, hl, hm, hmm, hx⟩
 ·simp at hcs
  obtain ⟨rfl, rfl, rfl⟩ := hcs
  exact ⟨none, 0, 0, [], rfl, Nat.le_refl _, Nat.zero_le _, Row.nil_, fun x hx => by cases hx⟩
 ·simp at hcs
  obtain ⟨rfl, rfl, rfl⟩ := hcs
  have hlm : n ≤ m := by subst hmm; split <;> omega
  have key : ∀ i : Nat, ∃ x : It, x.fit ∧ (i < n → ∀ j v, x.cells[j]? = some v → W.cell? (a.add (i * 5 + j)) = some v) := by
   intro i
   by_cases hi : i < n
   ·obtain ⟨ys, k, hf⟩ := hx i (by omega)
    obtain ⟨v0, y0, h0, _, t0⟩ := hf 0 _ rfl
    obtain ⟨v1, y1, h1, _, t1⟩ := hf 1 _ rfl
    obtain ⟨v2, y2, h2, _, t2⟩ := hf 2 _ rfl
    obtain ⟨v3, y3, h3, _, t3⟩ := hf 3 _ rfl
    obtain ⟨v4, y4, h4, _, t4⟩ := hf 4 _ rfl
    obtain ⟨z0, e0, _, _⟩ := DataW.trod_int Tryz.underlying3 t0
    obtain ⟨z1, e1, _, _⟩ := DataW.trod_int Tryz.underlying3 t1
    obtain ⟨z2, e2, _, w2⟩ := DataW.trod_int Tryz.underlying25 t2
    obtain ⟨z3, e3, _, w3⟩ := DataW.trod_int Tryz.underlying25 t3
    obtain ⟨z4, e4, _, w4⟩ := DataW.trod_int Tryz.underlying2 t4
    simp at e0 e1 e2 e3 e4
    subst e0 e1 e2 e3 e4
    obtain ⟨u2, rfl, b2⟩ := wfu64 w2
    obtain ⟨u3, rfl, b3⟩ := wfu64 w3
    have b4 := wfi64 w4
    refine ⟨⟨z0, z1, u2, u3, z4⟩, ⟨b4.1, Int.lt_of_le_of_lt b4.2 (by decide)⟩, fun _ j v hj => ?_⟩
    match j with
    | 0 => simp [It.cells] at hj; subst hj; exact h0
    | 1 => simp [It.cells] at hj; subst hj; exact h1
    | 2 => simp [It.cells] at hj; subst hj; exact h2
    | 3 => simp [It.cells] at hj; subst hj; exact h3
    | 4 => simp [It.cells] at hj; subst hj; exact h4
    | k + 5 => simp [It.cells] at hj
   ·exact ⟨⟨0, 0, 0, 0, 0⟩, by unfold It.fit; simp, fun h => absurd h hi⟩
  obtain ⟨f, hf⟩ := Classical.axiomOfChoice key
  refine ⟨some a, n, c, (List.range n).map f, rfl, hl, hm, row_of_items W a n f (fun i hi => (hf i).2 hi), fun x hx => ?_⟩
  obtain ⟨i, _, rfl⟩ := List.mem_map.1 hx
  exact (hf i).1
end
section
open Go Go.RowKit Go.Lib Go.Shelf
variable {w w0 w1 w2 : World} {X X1 X2 : Dw} {S S1 S2 : Sd} {Y Y1 Y2 : Yw} {V V1 V2 : Sv} {nb now grace : Nat} {ni : Int} {F G : List Nat}
theorem Fixed.other {A : Option Addr} {n c : Nat} {l : List It} (h : Fixed F w fun w => Its 0 w A n c l) (hA : ∀ j, j < (itc l).length → ∀ a, A = some a → a.block ∉ G) (k : Chg G w w1) (hG : ∀ g ∈ G, g < w.heap.size) : Fixed F w1 fun w => Its 0 w A n c l := fun w2 k2 => by
 have hsz := Nat.le_trans k.size k2.size
 have hb : ∀ g ∈ G, (back w w2 G).heap[g]? = w.heap[g]? := fun g hg => back_in hg (hG g hg) (Nat.lt_of_lt_of_le (hG g hg) hsz)
 have h1 := h (back w w2 G) ⟨k2.os.trans k.os, k2.tape.trans k.tape, k2.output.trans k.output, by rw [back_size]; exact hsz, fun g hg hF => by
  by_cases hm : g ∈ G
  ·exact hb g hm
  ·rw [back_out hm, k2.block g (Nat.lt_of_lt_of_le hg k.size) hF, k.block g hg hm]⟩
 refine ⟨?_, h1.nc, h1.cm, h1.low⟩
 have hr := h1.row
 rw [back_size] at hr
 exact row_chg (F := G) (w := back w w2 G) (w' := w2) ⟨rfl, rfl, rfl, by rw [back_size]; exact Nat.le_refl _, fun g _ hm => (back_out hm).symm⟩ hr (by rw [back_size]; exact Nat.le_refl _) hA
def Away (G : List Nat) (Y : Yw) (V : Sv) : Prop := ∀ j, j < (itc V.st).length → ∀ a, Y.A.a = some a → a.block ∉ G
theorem NdAt.other (h : NdAt w X S Y V nb ni now grace) (ht : V.tabs = []) (hv : V.M.v.files = []) (hA : Away G Y V) (c : Chg G w w1) (hG : ∀ g ∈ G, g ∉ XY X Y ∧ NG ≤ g ∧ g < w.heap.size) (hn : nb ∉ G) : NdAt w1 X S Y V nb ni now grace := by
 have hf : ∀ g ∈ Y.foot, g ∉ G := fun g h1 h2 => (hG g h2).1 (List.mem_append_right _ h1)
 refine ⟨⟨h.at_.dm.chg c (fun g hg => ⟨fun hm => (hG g hg).1 (List.mem_append_left _ hm), (hG g hg).2.1⟩), h.at_.box.chg c (hf _ (Yw.mem_foot.2 (.inl rfl))), h.at_.man.chg c (hf _ (Yw.mem_foot.2 (.inr (.inl rfl)))), ?_, h.at_.pout, h.at_.log.chg c (hf _ (Yw.mem_foot.2 (.inr (.inr (.inl rfl))))), h.at_.mem.chg c (fun g hg => hf g (Yw.mem_foot.2 ?_)), h.at_.its, ?_, h.at_.st.other hA c (fun g hg => (hG g hg).2.2), h.at_.apart, h.at_.ng⟩, h.box.chg c hn, h.out⟩
 ·have hr := h.at_.row
  rw [hv] at hr ⊢
  exact ⟨⟨hr.row.len, fun j hj => absurd hj (by simp [fcells])⟩, hr.nc, hr.cm, hr.nb, hr.away⟩
 ·rcases List.mem_cons.1 hg with rfl | hg
  ·exact .inr (.inr (.inr (.inl rfl)))
  ·exact .inr (.inr (.inr (.inr hg)))
 ·have := h.at_.tabs.now
  rw [ht] at this ⊢
  exact fun w2 _ => this.none w2
theorem Away.lt (h : NdAt w X S Y V nb ni now grace) : ∀ j, j < (itc V.st).length → ∀ a, Y.A.a = some a → a.block < w.heap.size := fun j hj a ha => by
 obtain ⟨b, e, hlt, _⟩ := h.at_.st.now.row.cell j hj
 rw [ha] at e
 injection e with e
 subst e
 exact hlt
structure Two (w0 w : World) (Xa : Dw) (Sa : Sd) (Ya : Yw) (Va : Sv) (na : Nat) (Xb : Dw) (Sb : Sd) (Yb : Yw) (Vb : Sv) (nb : Nat) : Prop where
 a : NdW w0 w Xa Sa Ya Va na 0 0 3
 b : NdW w0 w Xb Sb Yb Vb nb 0 0 3
 ap : ∀ g ∈ XY Xa Ya, g ∉ XY Xb Yb
 na : na ∉ XY Xb Yb
 nb : nb ∉ XY Xa Ya
 wa : Away (XY Xb Yb) Ya Va
 wb : Away (XY Xa Ya) Yb Vb
variable {Xa Xb : Dw} {Sa Sb : Sd} {Ya Yb : Yw} {Va Vb : Sv} {na : Nat}
theorem Two.swap (h : Two w0 w Xa Sa Ya Va na Xb Sb Yb Vb nb) : Two w0 w Xb Sb Yb Vb nb Xa Sa Ya Va na := ⟨h.b, h.a, fun g hb ha => h.ap g ha hb, h.nb, h.na, h.wb, h.wa⟩
theorem Two.below (h : Two w0 w Xa Sa Ya Va na Xb Sb Yb Vb nb) (hb : Below w.heap.size w w1) : Two w0 w1 Xa Sa Ya Va na Xb Sb Yb Vb nb := ⟨h.a.below hb, h.b.below hb, h.ap, h.na, h.nb, h.wa, h.wb⟩
theorem Two.step (h : Two w0 w Xa Sa Ya Va na Xb Sb Yb Vb nb) (hn : NdAt w1 X1 S1 Y1 V1 na 0 0 3) (c : Chg (XY Xa Ya) w w1) (f : ∀ g ∈ XY X1 Y1, g ∈ XY Xa Ya ∨ w.heap.size ≤ g) (k : NewA w Ya Y1) (ht : Vb.tabs = []) (hv : Vb.M.v.files = []) : Two w0 w1 X1 S1 Y1 V1 na Xb Sb Yb Vb nb := by
 have lb := h.b.at_.at_.lt
 have la := h.a.at_.at_.lt
 have ln := h.b.at_.box.lt
 have hb := h.b.at_.other ht hv h.wb c (fun g hg => ⟨h.ap g hg, by
  rcases List.mem_append.1 hg with z | z
  ·exact h.a.at_.at_.dm.base g z
  ·exact h.a.at_.at_.ng g z, la g hg⟩) h.nb
 refine ⟨h.a.turn hn c f, ⟨hb, h.b.low, h.b.bel.trans (c.below h.b.bel.size h.a.low)⟩, fun g hg hm => ?_, h.na, fun hm => ?_, fun j hj a ha hm => ?_, fun j hj a ha hm => ?_⟩
 ·rcases f g hg with z | z
  ·exact h.ap g z hm
  ·have := lb g hm
   omega
 ·rcases f _ hm with z | z
  ·exact h.nb z
  ·omega
 ·rcases k with k | k
  ·have e1 := h.a.at_.at_.alen
   have e2 := hn.at_.alen
   rw [k] at ha e2
   refine h.wa j ?_ a ha hm
   rw [itc_length] at hj ⊢
   omega
  ·have := k a ha
   have := lb _ hm
   omega
 ·rcases f _ hm with z | z
  ·exact h.wb j hj a ha z
  ·have := Away.lt h.b.at_ j hj a ha
   omega
theorem joins_twice {a b : List It} (h : Stt a) : joins (joins a b) b = joins a b := by
 rw [← joins_append]
 refine (joins_stt (b ++ b) h).1.eq_of (joins_stt b h).1 fun y => ?_
 rw [(joins_stt (b ++ b) h).2, (joins_stt b h).2]
 exact Eqv.of_mem (fun y _ => by simp) y
theorem rmsgok_put (id : Nat) (A : Option Addr) (c : Nat) (x : It) (w : World) (hid : id ≤ 1000) (hr : Row w.heap.size w A 1 5 (itc [x])) :
  Calls Tryz.prog 15 #[.agg #[.int .i64 1, .int .i64 1, .int .i64 0, .int .u64 (id : Int), .int .u64 0, .slice A 1 c]] w fun e w' => e = .returned (.bool x.ok) ∧ Below w.heap.size w w' := by
 have hb1 := (Below.refl w.heap.size w).alloc (Nat.le_refl _) (.cells #[.int .i64 1, .int .i64 1, .int .i64 0, .int .u64 (id : Int), .int .u64 0, .slice A 1 c] 47)
 have hma := rmay_any A 1 c [x] _ (by omega) ((hr.below hb1).up hb1.size)
 have e1 : ((1099511627776 : Int) < (id : Int)) = False := eq_false (by omega)
 have hq : (if [x].all It.ok = true then (0 : Int) else 1) = if x.ok = true then 0 else 1 := by simp
 rw [hq] at hma
 obtain ⟨b, hb⟩ : ∃ b, b = x.ok := ⟨_, rfl⟩
 rw [← hb] at hma ⊢
 have HMA := Lib.hid hma
 have HB := Lib.hid hb1
 clear hma hq hb hr hb1
 go_enter Tryz.func15, Tryz.ntmps15
 go_wp2_with fail
 with_reducible refine HMA.out.mono ?_
 rintro e w1 ⟨rfl, hb2⟩
 have HZ := Lib.hid (later_ HB.out hb2)
 clear hb2 HMA
 cases b with
 | true =>
  go_wp2
  go_ret
  exact ⟨rfl, HZ.out⟩
 | false =>
  go_wp2
  go_ret
  exact ⟨rfl, HZ.out⟩
end
section
open Go Go.RowKit Go.Lib Go.Shelf
variable {w w0 w1 w2 : World} {X X1 X2 : Dw} {S S1 S2 : Sd} {Y Y1 Y2 : Yw} {V V1 V2 : Sv} {nb now grace : Nat} {ni : Int}
theorem okJoins_snoc {l : List It} {k : Nat} (h : k < l.length) (a : List It) : okJoins a (l.take (k + 1)) = if (l[k]).ok = true then add (okJoins a (l.take k)) l[k] else okJoins a (l.take k) := by
 unfold okJoins
 rw [List.take_succ_eq_append_getElem h, List.foldl_append]
 rfl
theorem row_one {p : Addr} {n : Nat} {l : List It} (h : Row w.heap.size w (some p) n 5 (itc l)) {k : Nat} (hk : k < l.length) : Row w.heap.size w (some (p.add (k * 5))) 1 5 (itc [l[k]]) := by
 have hn := h.itlen
 have := h.itcut (k := k) (m := k + 1) (Nat.le_succ _) (by omega) (A' := some (p.add (k * 5))) (fun _ => rfl)
 rw [show (l.drop k).take (k + 1 - k) = [l[k]] by rw [Nat.add_sub_cancel_left, List.drop_eq_getElem_cons hk]; rfl] at this
 simpa using this
structure NsI (w0 w : World) (nb : Nat) (l : List It) (k : Nat) (A : Option Addr) (q : Nat) (X : Dw) (S : Sd) (Y : Yw) (V : Sv) : Prop where
 nd : NdW w0 w X S Y V nb 0 0 3
 ns : Nd.NS 4194304 S V (54 * k) 100
 m : V.M = Nd.v0.M
 st : V.st = okJoins [] (l.take k)
 row : Row w.heap.size w A q 5 (itc V.st)
 out : ∀ a, A = some a → a.block ∉ XY X Y ∧ a.block < w.heap.size
theorem NsI.len {k : Nat} {l : List It} {A : Option Addr} {q : Nat} (h : NsI w0 w nb l k A q X S Y V) : V.st.length ≤ k ∧ q = V.st.length := by
 have h1 := joins_len (l.take k) []
 rw [h.st, okJoins_eq]
 rw [List.length_take] at h1
 simp only [List.length_nil, Nat.zero_add] at h1
 exact ⟨by omega, by rw [← okJoins_eq, ← h.st]; exact h.row.itlen.symm⟩
theorem NsI.below {k : Nat} {l : List It} {A : Option Addr} {q : Nat} (h : NsI w0 w nb l k A q X S Y V) (hb : Below w.heap.size w w1) : NsI w0 w1 nb l k A q X S Y V := ⟨h.nd.below hb, h.ns, h.m, h.st, (h.row.below hb).up hb.size, fun a ha => ⟨(h.out a ha).1, Nat.lt_of_lt_of_le (h.out a ha).2 hb.size⟩⟩
theorem NsI.kept {k : Nat} {l : List It} {A : Option Addr} {q : Nat} (h : NsI w0 w nb l k A q X S Y V) (c : Chg (XY X Y) w w1) : Row w1.heap.size w1 A q 5 (itc V.st) :=
 (row_chg c h.row (Nat.le_refl _) fun j hj a ha => (h.out a ha).1).up c.size
theorem NsI.skip {k : Nat} {l : List It} {A : Option Addr} {q : Nat} (h : NsI w0 w nb l k A q X S Y V) (hk : k < l.length) (hx : (l[k]).ok = false) : NsI w0 w nb l (k + 1) A q X S Y V :=
 ⟨h.nd, h.ns.mono (by omega) (Nat.le_refl _), h.m, by rw [okJoins_snoc hk, hx, if_neg (by simp)]; exact h.st, h.row, h.out⟩
theorem NsI.more {k : Nat} {l : List It} {A A2 : Option Addr} {q q2 c2 : Nat} (h : NsI w0 w nb l k A q X S Y V) (hk : k < l.length) (hx : (l[k]).ok = true) (hn : NdAt w1 X1 S1 Y1 V1 nb 0 0 3) (c : Chg (XY X Y) w w1) (f : ∀ g ∈ XY X1 Y1, g ∈ XY X Y ∨ w.heap.size ≤ g) (ns : Nd.NS 4194304 S1 V1 (54 * k + (22 + 32 * 1)) 100) (hst : V1.st = joins V.st [l[k]]) (hm : V1.M = V.M)
  (hp : RaddPost w1 A (joins V.st [l[k]]) (.returned (.slice A2 q2 c2)) w2) : NsI w0 w2 nb l (k + 1) A2 q2 X1 S1 Y1 V1 := by
 obtain ⟨A', k', c', e, h1, h2, h3, hb⟩ := hp
 injection e with e
 injection e with e1 e2 e3
 subst e1 e2 e3
 refine ⟨(h.nd.turn hn c f).below hb, ns.mono (by omega) (Nat.le_refl _), hm.trans h.m, ?_, by rw [hst]; exact h2, fun a ha => ?_⟩
 ·rw [hst, h.st, okJoins_snoc hk, hx, if_pos rfl]
  rfl
 ·rcases h3 with rfl | h3
  ·obtain ⟨z1, z2⟩ := h.out a ha
   refine ⟨fun hmm => ?_, Nat.lt_of_lt_of_le z2 (Nat.le_trans c.size hb.size)⟩
   rcases f _ hmm with z | z
   ·exact z1 z
   ·omega
  ·refine ⟨fun hmm => ?_, (h3 a ha).2⟩
   have := hn.at_.lt _ hmm
   have := (h3 a ha).1
   omega
end
end Go.Proofs.YtdkjoigpahafmaaGreatDoor
