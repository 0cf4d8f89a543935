/- Texts EditL, RefA in one. No conditions. -/
import Derived.Test.YthepokgkfaocmaaGreatDoorBunAK
import Derived.Test.YthepokgkfaocmaaGreatDoorBunAM

/-
  The walk of edit.Read, for any bytes.
-/
namespace Go.Proofs.YthepokgkfaocmaaGreatDoor
open Go Go.RowKit

/-- What Read gives. -/
def RdPost (w : World) (P : Ed × Nat) (x : Ending) (w' : World) : Prop := ∃ D m d A n c, x = .returned (.tuple #[P.1.val D m d A n c, .int .i64 (P.2 : Int)]) ∧ Row w'.heap.size w' D m 1 (icells P.1.drop) ∧ Row w'.heap.size w' A n 2 (fcells P.1.add) ∧
  (∀ a, D = some a → w.heap.size ≤ a.block) ∧ (∀ a, A = some a → w.heap.size ≤ a.block) ∧ Below w.heap.size w w'
/-- Where Read stands: its change, its reader, what is left of the bytes. -/
structure Rst (w : World) (rb : Nat) (D : Option Addr) (m : Nat) (ds : List Int) (W : World) (ec : List Value) (A : Option Addr) (N c : Nat) (l : List UInt8) (ok : Bool) : Prop where
  e : BoxO W 39 (w.heap.size + 1) ec
  res : BoxO W 39 w.heap.size [.slice none 0 0, .slice none 0 0, .int .i64 0, .int .u64 0, .int .u64 0, .int .u64 0, .int .u64 0]
  rd : BoxO W 193 rb [.slice A N c, .bool ok]
  row : Row w.heap.size W A N 1 (bts l)
  nc : N ≤ c
  nb : N ≤ 100000000
  dr : Row rb W D m 1 (icells ds)
  dl : ∀ a, D = some a → w.heap.size + 1 + 1 ≤ a.block
  bel : Below w.heap.size w W
  hi : w.heap.size + 1 + 1 ≤ rb
section
variable {w W W' : World} {rb m N c : Nat} {D A : Option Addr} {ds : List Int} {ec : List Value} {l : List UInt8} {ok : Bool}
theorem Rst.lt (h : Rst w rb D m ds W ec A N c l ok) : rb < W.heap.size := h.rd.lt
theorem Rst.drew (h : Rst w rb D m ds W ec A N c l ok) : Rst w rb D m ds W.drew ec A N c l ok := ⟨h.e.drew, h.res.drew, h.rd.drew, h.row.drew, h.nc, h.nb, h.dr.drew, h.dl, below_drew h.bel, h.hi⟩
theorem Rst.later (h : Rst w rb D m ds W ec A N c l ok) (hb : Below (rb + 1) W W') : Rst w rb D m ds W' ec A N c l ok :=
  have h1 := h.hi
  ⟨(hb.block _ (by omega)).trans h.e, (hb.block _ (by omega)).trans h.res, (hb.block _ (by omega)).trans h.rd, h.row.below (hb.mono (by omega)), h.nc, h.nb, h.dr.below (hb.mono (by omega)), h.dl, h.bel.trans (hb.mono (by omega)), h.hi⟩
theorem Rst.below (h : Rst w rb D m ds W ec A N c l ok) (hb : Below W.heap.size W W') : Rst w rb D m ds W' ec A N c l ok := h.later (hb.mono h.lt)
theorem Rst.store (h : Rst w rb D m ds W ec A N c l ok) (j : Nat) (v : Value) : Rst w rb D m ds (W.setCell ⟨w.heap.size + 1, j, none⟩ v) (ec.set j v) A N c l ok :=
  have h1 := h.hi
  have hc := chg_set W ⟨w.heap.size + 1, j, none⟩ v
  have hlt := h.lt
  ⟨h.e.store j v, h.res.chg hc (by simp), h.rd.chg hc (by simp; omega), h.row.setCell (by simp) v, h.nc, h.nb, hc.row h.dr (Nat.le_of_lt hlt) (fun a ha hm => by have := h.dl a ha; simp at hm; omega), h.dl, h.bel.setCell (by simp) v, h.hi⟩
theorem Rst.take (h : Rst w rb D m ds W ec A N c l ok) (most : Nat) (hm : most < 18446744073709551616) :
    Calls Tryz.prog 128 #[.pointer (some ⟨rb, 0, none⟩), .int .u64 (most : Int)] W fun x W' => ∃ A' N' c', x = .returned (.int .u64 ((Rd.take most (l, ok)).1 : Int)) ∧ Rst w rb D m ds W' ec A' N' c' (Rd.take most (l, ok)).2.1 (Rd.take most (l, ok)).2.2 ∧ Chg [rb] W W' := by
  have h1 := h.hi
  have h2 := h.nb
  refine (rtake_gen w.heap.size rb (by omega) A N c l ok most W (by omega) h.nc hm h.rd h.row).mono ?_
  rintro x W' ⟨A', N', c', rfl, hn1, hn2, hr, hb, hc⟩
  exact ⟨A', N', c', rfl, ⟨h.e.chg hc (by simp; omega), h.res.chg hc (by simp; omega), hb, hr, hn1, by omega, h.dr.keep (fun p hp => hc.cell (by have := h.lt; omega) (by simp; omega)), h.dl, h.bel.trans (hc.below h.bel.size (by intro q hq; simp at hq; omega)), h.hi⟩, hc⟩
end
theorem u64v_take {ns : List Nat} {k : Nat} (h : k < ns.length) : ns.take (k + 1) = ns.take k ++ [ns[k]] := (List.take_append_getElem h).symm
def clamp (n : Nat) : Int := ((min n 1073741825 : Nat) : Int)
set_option maxRecDepth 100000 in
set_option maxHeartbeats 4000000 in
theorem eread_gen (A : Option Addr) (N c0 : Nat) (b : List UInt8) (w : World) (hN : N ≤ 100000000) (hNc : N ≤ c0) (hr : Row w.heap.size w A N 1 (bts b)) :
    Calls Tryz.prog 107 #[.slice A N c0] w (RdPost w (Ed.read b)) := by
  obtain ⟨i0, hi0, hz0, hz1, hz2⟩ := info_parts info_file
  obtain ⟨j0, hj0, hj1, hj2, hj3⟩ := info_parts info_int
  have hbl := hr.btlen
  have hul := Pn.unlist_le b 40
  have hred : Ed.read b = if (Pn.unlist b 40).2.2 ≠ 0 then (Ed.zero, 3) else if Ed.good (Rd.tail ((Pn.unlist b 40).1.map clamp) (Rd.files (Rd.take 40 (b.drop (Pn.unlist b 40).2.1, true)).2 (Rd.take 40 (b.drop (Pn.unlist b 40).2.1, true)).1).1 (Rd.files (Rd.take 40 (b.drop (Pn.unlist b 40).2.1, true)).2 (Rd.take 40 (b.drop (Pn.unlist b 40).2.1, true)).1).2) = true then ((Rd.tail ((Pn.unlist b 40).1.map clamp) (Rd.files (Rd.take 40 (b.drop (Pn.unlist b 40).2.1, true)).2 (Rd.take 40 (b.drop (Pn.unlist b 40).2.1, true)).1).1 (Rd.files (Rd.take 40 (b.drop (Pn.unlist b 40).2.1, true)).2 (Rd.take 40 (b.drop (Pn.unlist b 40).2.1, true)).1).2).1, 0) else (Ed.zero, 3) := rfl
  have hun := fun W (hW : Row W.heap.size W A N 1 (bts b)) => unlist_any A N c0 b 40 W (by omega) hNc (by omega) hW
  generalize Ed.read b = R at *
  generalize Pn.unlist b 40 = U at *
  obtain ⟨us, sz, er⟩ := U
  simp only at hred hul hun
  have HRED := Lib.hid hred
  have HUN := Lib.hid hun
  have HR := Lib.hid hr
  clear hred hun hr
  go_enter Tryz.func107, Tryz.ntmps107
  go_wp2_with fail
  have hb0 : Below w.heap.size w ((w.alloc (.cells #[.slice none 0 0, .slice none 0 0, .int .i64 0, .int .u64 0, .int .u64 0, .int .u64 0, .int .u64 0] 39)).alloc (.cells #[.slice none 0 0, .slice none 0 0, .int .i64 0, .int .u64 0, .int .u64 0, .int .u64 0, .int .u64 0] 39)) := ((Below.refl _ _).alloc (Nat.le_refl _) _).alloc (by simp) _
  have hRes := (BoxO.new w #[.slice none 0 0, .slice none 0 0, .int .i64 0, .int .u64 0, .int .u64 0, .int .u64 0, .int .u64 0] 39).alloc (.cells #[.slice none 0 0, .slice none 0 0, .int .i64 0, .int .u64 0, .int .u64 0, .int .u64 0, .int .u64 0] 39)
  have hE := BoxO.new (w.alloc (.cells #[.slice none 0 0, .slice none 0 0, .int .i64 0, .int .u64 0, .int .u64 0, .int .u64 0, .int .u64 0] 39)) #[.slice none 0 0, .slice none 0 0, .int .i64 0, .int .u64 0, .int .u64 0, .int .u64 0, .int .u64 0] 39
  simp only [World.size_alloc] at hE
  have hsz : ((w.alloc (.cells #[.slice none 0 0, .slice none 0 0, .int .i64 0, .int .u64 0, .int .u64 0, .int .u64 0, .int .u64 0] 39)).alloc (.cells #[.slice none 0 0, .slice none 0 0, .int .i64 0, .int .u64 0, .int .u64 0, .int .u64 0, .int .u64 0] 39)).heap.size = w.heap.size + 1 + 1 := by simp
  generalize ((w.alloc (.cells #[.slice none 0 0, .slice none 0 0, .int .i64 0, .int .u64 0, .int .u64 0, .int .u64 0, .int .u64 0] 39)).alloc (.cells #[.slice none 0 0, .slice none 0 0, .int .i64 0, .int .u64 0, .int .u64 0, .int .u64 0, .int .u64 0] 39)) = V at *
  refine (HUN.out _ ((HR.out.below hb0).up hb0.size)).mono ?_
  rintro x w1 ⟨A1, k1, c1, rfl, ho1, hb1⟩
  have hE1 := hE.below hb1
  have hRes1 := hRes.below hb1
  have hbl1 := later_ hb0 hb1
  have hsz1 : w.heap.size + 1 + 1 ≤ w1.heap.size := by have := hb1.size; omega
  have hk1 := (Row.own ho1).unlen
  have ho1' := own_base ho1 (Nat.le_of_eq hsz.symm)
  have hlow1 : ∀ a, A1 = some a → w.heap.size + 1 + 1 ≤ a.block := fun a ha => by
    obtain ⟨_, _, hsl, _, _, hbs⟩ := own_form ho1'
    injection hsl with h1 h2 h3
    subst h1
    exact (hbs a ha).1
  have hrow1 := Row.own ho1
  clear hE hRes hb0 hb1 ho1 ho1' hsz HUN
  have zero : ∀ (W : World), BoxO W 39 w.heap.size [.slice none 0 0, .slice none 0 0, .int .i64 0, .int .u64 0, .int .u64 0, .int .u64 0, .int .u64 0] → Below w.heap.size w W → R = (Ed.zero, 3) → RdPost w R (.returned (.tuple #[.agg #[.slice none 0 0, .slice none 0 0, .int .i64 0, .int .u64 0, .int .u64 0, .int .u64 0, .int .u64 0], .int .i64 3])) ((((((((W.setCell ⟨w.heap.size, 0, none⟩ (.slice none 0 0)).setCell ⟨w.heap.size, 1, none⟩ (.slice none 0 0)).setCell ⟨w.heap.size, 2, none⟩ (.int .i64 0)).setCell ⟨w.heap.size, 3, none⟩ (.int .u64 0)).setCell ⟨w.heap.size, 4, none⟩ (.int .u64 0)).setCell ⟨w.heap.size, 5, none⟩ (.int .u64 0)).setCell ⟨w.heap.size, 6, none⟩ (.int .u64 0))) := by
    intro W hB hbW hR
    rw [hR]
    exact ⟨none, 0, 0, none, 0, 0, rfl, Row.nil_, Row.nil_, (fun a ha => by cases ha), (fun a ha => by cases ha), ((((((hbW.setCell (by simp) _).setCell (by simp) _).setCell (by simp) _).setCell (by simp) _).setCell (by simp) _).setCell (by simp) _).setCell (by simp) _⟩
  have HZR := Lib.hid zero
  clear zero
  by_cases her : er = 0
  case neg =>
    have he3 : ((er : Int) == 0) = false := by simp; omega
    have he4 : ¬ (er : Int) = 0 := by omega
    have hR : R = (Ed.zero, 3) := by rw [HRED.out, if_pos her]
    have HRR := Lib.hid hR
    have r0 := hRes1.cell 0
    have r1 := hRes1.cell 1
    have r2 := hRes1.cell 2
    have r3 := hRes1.cell 3
    have r4 := hRes1.cell 4
    have r5 := hRes1.cell 5
    have r6 := hRes1.cell 6
    have y0 := hRes1.free 0
    have y1 := hRes1.free 1
    have y2 := hRes1.free 2
    have y3 := hRes1.free 3
    have y4 := hRes1.free 4
    have y5 := hRes1.free 5
    have y6 := hRes1.free 6
    simp only [List.getElem?_cons_zero, List.getElem?_cons_succ] at r0 r1 r2 r3 r4 r5 r6
    clear hR
    go_wp2_with fail
    refine bodyPost_ret (v := .tuple #[.agg #[.slice none 0 0, .slice none 0 0, .int .i64 0, .int .u64 0, .int .u64 0, .int .u64 0, .int .u64 0], .int .i64 3]) (by simp [results, go_sem, *]) rfl ?_
    exact HZR.out w1 hRes1 hbl1 HRR.out
  case pos =>
  subst her
  obtain ⟨hul1, hul2⟩ := hul rfl
  have hred := HRED.out
  rw [if_neg (by simp)] at hred
  have HRED2 := Lib.hid hred
  rw [show ((0 : Nat) : Int) = 0 from rfl]
  clear hul hred HRED
  go_wp2_with fail
  go_loopw [23] (fun x wr => ∃ (k : Nat) (D : Option Addr) (d : Nat), k ≤ k1 ∧ x = .int .i64 (k : Int) ∧ BoxO wr 39 (w.heap.size + 1) [.slice D k d, .slice none 0 0, .int .i64 0, .int .u64 0, .int .u64 0, .int .u64 0, .int .u64 0] ∧ wr.ownsRow w1.heap.size 3 1 (.slice D k d) k (icells ((us.take k).map clamp)) ∧ Chg [w.heap.size + 1] w1 wr) (fun x _ => k1 - (intOf x).toNat)
  case atStart => exact ⟨0, none, 0, Nat.zero_le _, rfl, hE1, World.ownsRow_nil _ _ _ _, Chg.refl _ _⟩
  case round =>
    obtain ⟨k, D, d, hk, rfl, hE, hown, hch⟩ := hrel
    have hszr := hch.size
    have hltE := hE.lt
    by_cases hlt : k < k1
    · obtain ⟨ua, hl, rfl, hub, huc⟩ := (hch.row hrow1 (Nat.le_refl _) (fun a ha h => by have := hlow1 a ha; simp at h; omega)).un hlt
      have htk := u64v_take hl
      generalize us[k] = u at *
      have HT := Lib.hid htk
      obtain ⟨q, hq⟩ : ∃ q : Nat, q = min u 1073741825 := ⟨_, rfl⟩
      have hqc : clamp u = (q : Int) := by rw [hq]; rfl
      have hmin : min (u : Int) 1073741825 = (q : Int) := by omega
      have hqi : IntKind.i64.wrap (q : Int) = (q : Int) := by rw [IntKind.wrap_i64]; omega
      have HQ := Lib.hid hqc
      have hq2 : q ≤ 1073741825 := by omega
      have q0 := hE.cell 0
      have z0 := hE.free 0
      simp only [List.getElem?_cons_zero] at q0
      have hrw := Row.new (n := 1) (size := 1) wr #[.int .i64 (q : Int)] 3 rfl
      clear htk hl hq hqc
      go_wp2_with (at_builtin; refine stop_in ?_)
      refine stop_out (wpList_app rfl (.tmp 28) (.tmp 32) _ rfl w1.heap.size 3 j0 _ 1 8 Tryz.underlying37 hj0 hj1 hj2 hj3 rfl (by omega) (wr.alloc (.cells #[.int .i64 (q : Int)] 3)) (Below.refl _ _) (by simp; omega) (.slice D k d) k (icells ((us.take k).map clamp)) rfl (hown.alloc _) (wr.heap.size + 1) _ 1 1 [.int .i64 (q : Int)] rfl hrw (by simp [Value.oneCell']) (k + 1) _ rfl rfl (by unfold maxLen; omega) (by omega) ?_)
      intro A3 c3 w3 ho3 hb3 hg3 hc3 hm3
      have hE3 : BoxO w3 _ _ _ := (hb3.block _ (by omega)).trans (hE.alloc _)
      have hch3 : Chg [w.heap.size + 1] w1 w3 := (hch.alloc (.cells #[.int .i64 (q : Int)] 3)).trans (Chg.of_grown hg3 (F := (Value.slice D k d).ownBlock.toList) (fun b hb => by simp [hb])) (fun g hg => .inr (by
        have : (Value.slice D k d).ownBlock = some g := by simpa using hg
        exact (hown.lt g this).1))
      clear hE hown hch hb3 hg3 hrw q0 z0
      have q0 := hE3.cell 0
      have z0 := hE3.free 0
      simp only [List.getElem?_cons_zero] at q0
      have hE4 := hE3.store 0 (.slice A3 (k + 1) c3)
      simp only [List.set_cons_zero] at hE4
      have hch4 := hch3.setCell (p := ⟨w.heap.size + 1, 0, none⟩) (.slice A3 (k + 1) c3) (.inl (by simp))
      have ho4 := own_chg ho3 (chg_set w3 ⟨w.heap.size + 1, 0, none⟩ (.slice A3 (k + 1) c3)) (fun g hg h => by
        have := (ho3.lt g hg).1
        simp at h
        omega)
      clear hE3 ho3 hch3
      go_wp2_with fail
      go_roundw
      case rel =>
        refine ⟨k + 1, A3, c3, by omega, by go_num, hE4, ?_, hch4⟩
        rw [HT.out, List.map_append, List.map_singleton, HQ.out]
        simpa [icells] using ho4
      case measure => simp [intOf]; omega
    · obtain rfl : k1 = k := by omega
      have hus : us.take k1 = us := List.take_of_length_le (by omega)
      rw [hus] at hown
      have hRes := hRes1.chg hch (by simp)
      have hblr := hbl1.trans (hch.below hbl1.size (by intro q hq; simp at hq; omega))
      have hlowD : ∀ a, D = some a → w.heap.size + 1 + 1 ≤ a.block := fun a ha => by
        obtain ⟨_, _, hsl, _, _, hbs⟩ := own_form hown
        injection hsl with h1 h2 h3
        subst h1
        have := (hbs a ha).1
        omega
      have hszN : sz ≤ N := by omega
      have hszc : sz ≤ c0 := by omega
      obtain ⟨A0, hA0⟩ : ∃ A0, (if c0 = sz then A else Option.map (fun x => x.add sz) A) = A0 := ⟨_, rfl⟩
      have hr0 := row_from HR.out hszN (A' := A0) (fun hlt => by rw [← hA0, if_neg (by omega)])
      have hS0 : Rst w wr.heap.size D k1 (us.map clamp) (wr.alloc (.cells #[.slice A0 (N - sz) (c0 - sz), .bool true] 193)) [.slice D k1 d, .slice none 0 0, .int .i64 0, .int .u64 0, .int .u64 0, .int .u64 0, .int .u64 0] A0 (N - sz) (c0 - sz) (b.drop sz) true :=
        ⟨hE.alloc _, hRes.alloc _, BoxO.new wr #[.slice A0 (N - sz) (c0 - sz), .bool true] 193, (hr0.below hblr).alloc hblr.size _, by omega, by omega, (Row.own hown).alloc (Nat.le_refl _) _, hlowD, hblr.alloc hblr.size _, by omega⟩
      have hltV : wr.heap.size < (wr.alloc (.cells #[.slice A0 (N - sz) (c0 - sz), .bool true] 193)).heap.size := by simp
      clear hE hRes hown hr0 hblr hlowD hus hch HR hE1 hRes1 hbl1 hrow1 hlow1
      have hj : (0 : Int) ≤ (sz : Int) := by omega
      go_wp2_with fail
      obtain ⟨rb, hrb⟩ : ∃ rb, rb = wr.heap.size := ⟨_, rfl⟩
      simp only [← hrb] at hS0 hltV ⊢
      generalize wr.alloc (.cells #[.slice A0 (N - sz) (c0 - sz), .bool true] 193) = V2 at *
      have HRB := Lib.hid hrb
      clear hrb
      refine (hS0.take 40 (by omega)).mono ?_
      rintro x w2 ⟨A2, N2, c2, rfl, hS2, -⟩
      clear hS0
      obtain ⟨K, hK⟩ : ∃ K, K = (Rd.take 40 (b.drop sz, true)).1 := ⟨_, rfl⟩
      obtain ⟨r0, hr0⟩ : ∃ r0, r0 = (Rd.take 40 (b.drop sz, true)).2 := ⟨_, rfl⟩
      have hK40 : K ≤ 40 := by rw [hK]; exact Rd.take_le _ _
      have hred := HRED2.out
      rw [← hK, ← hr0] at hred
      rw [← hr0] at hS2
      have HRED3 := Lib.hid hred
      simp only [← hK]
      clear hK hr0 hred HRED2
      go_wp2_with fail
      go_loopw [43] (fun x wr => ∃ (k : Nat) (A3 : Option Addr) (d3 : Nat) (A N c : _), k ≤ K ∧ x = .int .u64 (k : Int) ∧ Rst w rb D k1 (us.map clamp) wr [.slice D k1 d, .slice A3 k d3, .int .i64 0, .int .u64 0, .int .u64 0, .int .u64 0, .int .u64 0] A N c (Rd.files r0 k).2.1 (Rd.files r0 k).2.2 ∧ wr.ownsRow (rb + 1) 114 2 (.slice A3 k d3) k (fcells (Rd.files r0 k).1)) (fun x _ => K - (intOf x).toNat)
      case atStart => exact ⟨0, none, 0, A2, N2, c2, Nat.zero_le _, rfl, hS2, World.ownsRow_nil _ _ _ _⟩
      case round =>
        obtain ⟨k, A3, d3, A4, N4, c4, hk, rfl, hS, hown⟩ := hrel
        clear hS2
        by_cases hlt2 : k < K
        · have hfs : Rd.files r0 (k + 1) = ((Rd.files r0 k).1 ++ [(((Rd.take 3 (Rd.files r0 k).2).1 : Int), ((Rd.take 1073741824 (Rd.take 3 (Rd.files r0 k).2).2).1 : Int))], (Rd.take 1073741824 (Rd.take 3 (Rd.files r0 k).2).2).2) := rfl
          generalize Rd.files r0 k = P at *
          obtain ⟨fl, l, ok⟩ := P
          simp only at hS hown hfs
          have ht1 := hS.take 3 (by omega)
          have hl3 := Rd.take_le 3 (l, ok)
          generalize Rd.take 3 (l, ok) = P1 at *
          obtain ⟨lv, l1, ok1⟩ := P1
          simp only at ht1 hl3 hfs
          have hl30 := Rd.take_le 1073741824 (l1, ok1)
          obtain ⟨P2, hP2⟩ : ∃ P2, P2 = Rd.take 1073741824 (l1, ok1) := ⟨_, rfl⟩
          rw [← hP2] at hfs hl30
          have HP2 := Lib.hid hP2
          clear hP2
          obtain ⟨nm, l2, ok2⟩ := P2
          simp only at hfs hl30
          have HFS := Lib.hid hfs
          clear hfs
          have hlw : IntKind.i64.wrap (lv : Int) = (lv : Int) := by rw [IntKind.wrap_i64]; omega
          have hnw : IntKind.i64.wrap (nm : Int) = (nm : Int) := by rw [IntKind.wrap_i64]; omega
          go_wp2_with fail
          refine ht1.mono ?_
          rintro x w3 ⟨A5, N5, c5, rfl, hS3, hc3⟩
          have ho3 := own_chg hown hc3 (fun g hg h => by
            have := (hown.lt g hg).1
            simp at h
            omega)
          have ht2 := hS3.drew.take 1073741824 (by omega)
          rw [show ((1073741824 : Nat) : Int) = 1073741824 from rfl] at ht2
          rw [← HP2.out] at ht2
          simp only at ht2
          have HO3 := Lib.hid ho3
          have hcall : Calls Tryz.prog 128 #[.pointer (some ⟨rb, 0, none⟩), .int .u64 1073741824] w3.drew fun x w4 => ∃ A6 N6 c6, x = .returned (.int .u64 (nm : Int)) ∧ Rst w rb D k1 (us.map clamp) w4 [.slice D k1 d, .slice A3 k d3, .int .i64 0, .int .u64 0, .int .u64 0, .int .u64 0, .int .u64 0] A6 N6 c6 l2 ok2 ∧
              w4.cell? ⟨w.heap.size + 1, 1, none⟩ = some (.slice A3 k d3) ∧ Hid (w4.ownsRow (rb + 1) 114 2 (.slice A3 k d3) k (fcells fl)) ∧ rb < w4.heap.size := by
            refine ht2.mono ?_
            rintro x w4 ⟨A6, N6, c6, rfl, hS4, hc4⟩
            refine ⟨A6, N6, c6, rfl, hS4, ?_, own_chg (G := [rb]) HO3.out (show Chg [rb] w3 w4 from ⟨hc4.os, hc4.tape, hc4.output, hc4.size, hc4.block⟩) (fun g hg h => by have := (HO3.out.lt g hg).1; simp at h; omega), hS4.lt⟩
            have e2 := hS4.e.cell 1
            simpa only [List.getElem?_cons_zero, List.getElem?_cons_succ] using e2
          have HT2 := Lib.hid hcall
          have e1 := hS3.e.cell 1
          simp only [List.getElem?_cons_zero, List.getElem?_cons_succ] at e1
          clear ht1 ht2 hS hown hc3 ho3 hcall
          have hk41 : k ≤ 40 := by omega
          go_wp2_with fail
          go_region_law (first
            | (go_simp; (with_reducible refine (HT2.out).mono ?_); rintro x w4 ⟨A6, N6, c6, rfl, hS4, e2, HO4, hs4⟩; have e2u := fun o => (World.cell?_alloc_lt w4 o _ (World.block_lt_of_cell? w4 _ e2)).trans e2; go_simp)
            | (refine step_appG rfl (.tmp 49) (.tmp 55) _ rfl (rb + 1) 114 i0 _ 2 16 Tryz.underlying28 hi0 hz0 hz1 hz2 rfl (by omega) (by simp; omega) (.slice A3 k d3) k (fcells fl) rfl (HO4.out.alloc _) (w4.heap.size + 1) _ 1 1 [.int .i64 (lv : Int), .int .i64 (nm : Int)] rfl (Row.new (n := 1) (size := 2) w4 #[.int .i64 (lv : Int), .int .i64 (nm : Int)] 114 rfl) (by simp [Value.oneCell']) (k + 1) (fcells (fl ++ [((lv : Int), (nm : Int))])) rfl (by simp [fcells]) (by unfold maxLen; omega) (by omega) ?_; intro A7 d7 w5 ho5 hg5 _ _ _; have hS5 := (hS4.later ((Below.refl (rb + 1) w4).alloc (by omega) (.cells #[.int .i64 (lv : Int), .int .i64 (nm : Int)] 114))).later ((Below.refl (rb + 1) _).grown hg5 (by simp; omega) (fun g hg => (HO4.out.lt g hg).1)); have e5 := hS5.e.cell 1; have z5 := hS5.e.free 1; simp only [List.getElem?_cons_zero, List.getElem?_cons_succ] at e5; have HO5 := Lib.hid ho5; clear ho5 hg5))
          all_goals
            have hS6 := hS5.store 1 (.slice A7 (k + 1) d7)
            simp only [List.set_cons_succ, List.set_cons_zero] at hS6
            have ho6 := own_chg HO5.out (chg_set w5 ⟨w.heap.size + 1, 1, none⟩ (.slice A7 (k + 1) d7)) (fun g hg h => by
              have h1 := (HO5.out.lt g hg).1
              have h2 := hS5.hi
              simp at h
              omega)
            clear HO4 HO3 hS5 hS4 hS3 HT2
            go_wp2_with fail
            go_roundw
            case rel => exact ⟨k + 1, A7, d7, A6, N6, c6, by omega, by go_num, by rw [HFS.out]; exact hS6, by rw [HFS.out]; exact ho6⟩
            case measure => simp [intOf]; omega
        · obtain rfl : K = k := by omega
          have hRe : R = if Ed.good (Rd.tail (us.map clamp) (Rd.files r0 K).1 (Rd.files r0 K).2) = true then ((Rd.tail (us.map clamp) (Rd.files r0 K).1 (Rd.files r0 K).2).1, 0) else (Ed.zero, 3) := HRED3.out
          have hrowA := Row.own hown
          have hlowA : ∀ a, A3 = some a → rb + 1 ≤ a.block := fun a ha => by
            obtain ⟨_, _, hsl, _, _, hbs⟩ := own_form hown
            injection hsl with h1 h2 h3
            subst h1
            exact (hbs a ha).1
          have hfl := hrowA.flen
          generalize Rd.files r0 K = P at *
          obtain ⟨fl, l, ok⟩ := P
          simp only at hS hrowA hRe hfl
          have HROWA := Lib.hid hrowA
          clear hown hrowA HRED3 hA0
          unfold Rd.tail at hRe
          have hle0 := Rd.take_le 1073741824 (l, ok)
          have ht0 := hS.take 1073741824 (by omega)
          rw [show ((1073741824 : Nat) : Int) = 1073741824 from rfl] at ht0
          generalize Rd.take 1073741824 (l, ok) = P0 at *
          obtain ⟨lg, l1, ok1⟩ := P0
          simp only at ht0 hle0 hRe
          have HRE := Lib.hid hRe
          clear hRe
          have hlw : IntKind.i64.wrap (lg : Int) = (lg : Int) := by rw [IntKind.wrap_i64]; omega
          have hC0 := Chg.refl [rb, w.heap.size + 1] wr
          have HT0 := Lib.hid ht0
          clear ht0 hS
          go_wp2_with fail
          refine HT0.out.mono ?_
          rintro x w3 ⟨A5, N5, c5, rfl, hT0, hc0⟩
          clear HT0
          have hC1 := hC0.trans hc0 (by simp)
          have e2 := hT0.e.cell 2
          have z2 := hT0.e.free 2
          simp only [List.getElem?_cons_zero, List.getElem?_cons_succ] at e2
          have hU0 := hT0.store 2 (.int .i64 (lg : Int))
          have hC1 := hC1.setCell (p := ⟨w.heap.size + 1, 2, none⟩) (.int .i64 (lg : Int)) (.inl (by simp))
          simp only [List.set_cons_succ, List.set_cons_zero] at hU0
          have hle1 := Rd.take_le 281474976710656 (l1, ok1)
          have ht1 := hU0.take 281474976710656 (by omega)
          rw [show ((281474976710656 : Nat) : Int) = 281474976710656 from rfl] at ht1
          have hRe := HRE.out
          clear HRE
          generalize Rd.take 281474976710656 (l1, ok1) = P1 at *
          obtain ⟨fo, l2, ok2⟩ := P1
          simp only at ht1 hle1 hRe
          have HRE := Lib.hid hRe
          clear hRe
          have HT1 := Lib.hid ht1
          clear ht1 hC0 hc0 hT0 hU0
          go_wp2_with fail
          refine HT1.out.mono ?_
          rintro x w4 ⟨A6, N6, c6, rfl, hT1, hc1⟩
          clear HT1
          have hC2 := hC1.trans hc1 (by simp)
          clear e2 z2 hC1 hc1
          have hle2 := Rd.take_le 281474976710656 (l2, ok2)
          have ht2 := hT1.take 281474976710656 (by omega)
          rw [show ((281474976710656 : Nat) : Int) = 281474976710656 from rfl] at ht2
          have hRe := HRE.out
          clear HRE
          generalize Rd.take 281474976710656 (l2, ok2) = P2 at *
          obtain ⟨ce, l3, ok3⟩ := P2
          simp only at ht2 hle2 hRe
          have HRE := Lib.hid hRe
          clear hRe
          have HT2 := Lib.hid ht2
          clear ht2
          go_wp2_with fail
          refine HT2.out.mono ?_
          rintro x w5 ⟨A7, N7, c7, rfl, hT2, hc2⟩
          clear HT2 hT1
          have hC3 := hC2.trans hc2 (by simp)
          have e3 := hT2.e.cell 3
          have z3 := hT2.e.free 3
          simp only [List.getElem?_cons_zero, List.getElem?_cons_succ] at e3
          have e4 := hT2.e.cell 4
          have z4 := hT2.e.free 4
          simp only [List.getElem?_cons_zero, List.getElem?_cons_succ] at e4
          have hU2 := (hT2.store 3 (.int .u64 (fo : Int))).store 4 (.int .u64 (ce : Int))
          have hC3 := (hC3.setCell (p := ⟨w.heap.size + 1, 3, none⟩) (.int .u64 (fo : Int)) (.inl (by simp))).setCell (p := ⟨w.heap.size + 1, 4, none⟩) (.int .u64 (ce : Int)) (.inl (by simp))
          simp only [List.set_cons_succ, List.set_cons_zero] at hU2
          have hle3 := Rd.take_le 281474976710656 (l3, ok3)
          have ht3 := hU2.take 281474976710656 (by omega)
          rw [show ((281474976710656 : Nat) : Int) = 281474976710656 from rfl] at ht3
          have hRe := HRE.out
          clear HRE
          generalize Rd.take 281474976710656 (l3, ok3) = P3 at *
          obtain ⟨at_, l4, ok4⟩ := P3
          simp only at ht3 hle3 hRe
          have HRE := Lib.hid hRe
          clear hRe
          have HT3 := Lib.hid ht3
          clear ht3 hC2 hc2 hT2 hU2
          go_wp2_with fail
          refine HT3.out.mono ?_
          rintro x w6 ⟨A8, N8, c8, rfl, hT3, hc3⟩
          clear HT3
          have hC4 := hC3.trans hc3 (by simp)
          clear e3 e4 z3 z4 hC3 hc3
          have hle4 := Rd.take_le 281474976710656 (l4, ok4)
          have ht4 := hT3.take 281474976710656 (by omega)
          rw [show ((281474976710656 : Nat) : Int) = 281474976710656 from rfl] at ht4
          have hRe := HRE.out
          clear HRE
          generalize Rd.take 281474976710656 (l4, ok4) = P4 at *
          obtain ⟨le, l5, ok5⟩ := P4
          simp only at ht4 hle4 hRe
          have HRE := Lib.hid hRe
          clear hRe
          have HT4 := Lib.hid ht4
          clear ht4
          go_wp2_with fail
          refine HT4.out.mono ?_
          rintro x w7 ⟨A9, N9, c9, rfl, hT4, hc4⟩
          clear HT4 hT3
          have hC5 := hC4.trans hc4 (by simp)
          have e5 := hT4.e.cell 5
          have z5 := hT4.e.free 5
          simp only [List.getElem?_cons_zero, List.getElem?_cons_succ] at e5
          have e6 := hT4.e.cell 6
          have z6 := hT4.e.free 6
          simp only [List.getElem?_cons_zero, List.getElem?_cons_succ] at e6
          have hU4 := (hT4.store 5 (.int .u64 (at_ : Int))).store 6 (.int .u64 (le : Int))
          have hC6 := (hC5.setCell (p := ⟨w.heap.size + 1, 5, none⟩) (.int .u64 (at_ : Int)) (.inl (by simp))).setCell (p := ⟨w.heap.size + 1, 6, none⟩) (.int .u64 (le : Int)) (.inl (by simp))
          simp only [List.set_cons_succ, List.set_cons_zero] at hU4
          have hrA := hC6.row HROWA.out (Nat.le_refl _) (fun a ha h => by
            have h1 := hlowA a ha
            have h2 := hU4.hi
            simp at h
            omega)
          have hrA := hrA.up hC6.size
          clear HROWA hC4 hC5 hC6 hc4 hT4
          have r0 := hU4.rd.cell 0
          have r1 := hU4.rd.cell 1
          have s0 := hU4.res.cell 0
          have s1 := hU4.res.cell 1
          have s2 := hU4.res.cell 2
          have s3 := hU4.res.cell 3
          have s4 := hU4.res.cell 4
          have s5 := hU4.res.cell 5
          have s6 := hU4.res.cell 6
          have y0 := hU4.res.free 0
          have y1 := hU4.res.free 1
          have y2 := hU4.res.free 2
          have y3 := hU4.res.free 3
          have y4 := hU4.res.free 4
          have y5 := hU4.res.free 5
          have y6 := hU4.res.free 6
          have v0 := hU4.e.cell 0
          have v1 := hU4.e.cell 1
          have v2 := hU4.e.cell 2
          have v3 := hU4.e.cell 3
          have v4 := hU4.e.cell 4
          have v5 := hU4.e.cell 5
          have v6 := hU4.e.cell 6
          simp only [List.getElem?_cons_zero, List.getElem?_cons_succ] at r0 r1 s0 s1 s2 s3 s4 s5 s6 v0 v1 v2 v3 v4 v5 v6
          go_upto_region 19 with (fail)
          generalize ((w7.setCell ⟨w.heap.size + 1, 5, none⟩ (.int .u64 (at_ : Int))).setCell ⟨w.heap.size + 1, 6, none⟩ (.int .u64 (le : Int))) = W at *
          clear e5 e6 z5 z6
          have hN9 := hU4.row.btlen
          cases ok5 with
          | false =>
            have HB := Lib.hid (HRE.out.trans (if_neg (by simp [Ed.good])))
            have hbz := hU4.bel
            have hrz := hU4.res
            clear HRE hrA v0 v1 v2 v3 v4 v5 v6 hU4
            go_wp2_with fail
            refine bodyPost_ret (v := .tuple #[.agg #[.slice none 0 0, .slice none 0 0, .int .i64 0, .int .u64 0, .int .u64 0, .int .u64 0, .int .u64 0], .int .i64 3]) (by simp [results, go_sem, *]) rfl ?_
            exact HZR.out W hrz hbz HB.out
          | true =>
            by_cases h9 : N9 = 0
            case neg =>
              have hlt9 : (0 : Int) < (N9 : Int) := by omega
              have HB := Lib.hid (HRE.out.trans (if_neg (by
                have : l5.isEmpty = false := by
                  cases l5 with
                  | nil => simp at hN9; omega
                  | cons a t => rfl
                simp [Ed.good, this])))
              have hbz := hU4.bel
              have hrz := hU4.res
              clear HRE hrA v0 v1 v2 v3 v4 v5 v6 hU4
              go_wp2_with fail
              refine bodyPost_ret (v := .tuple #[.agg #[.slice none 0 0, .slice none 0 0, .int .i64 0, .int .u64 0, .int .u64 0, .int .u64 0, .int .u64 0], .int .i64 3]) (by simp [results, go_sem, *]) rfl ?_
              exact HZR.out W hrz hbz HB.out
            case pos =>
              subst h9
              obtain rfl := List.eq_nil_of_length_eq_zero hN9
              have hmay := may_gen ⟨us.map clamp, fl, (lg : Int), fo, ce, at_, le⟩ D k1 d A3 K d3 W (by omega) (by omega) (hU4.dr.up (Nat.le_of_lt hU4.lt)) hrA
              unfold Ed.val at hmay
              simp only at hmay
              cases hm : Ed.may ⟨us.map clamp, fl, (lg : Int), fo, ce, at_, le⟩ with
              | false =>
                rw [hm] at hmay
                have HB := Lib.hid (HRE.out.trans (if_neg (by simp [Ed.good, hm])))
                have HM := Lib.hid hmay
                clear HRE hrA hm hmay
                go_wp2_with fail
                refine HM.out.mono ?_
                rintro x w8 ⟨rfl, hb8⟩
                have hrz := hU4.res.below hb8
                have hbz := later_ hU4.bel hb8
                clear s0 s1 s2 s3 s4 s5 s6 y0 y1 y2 y3 y4 y5 y6 v0 v1 v2 v3 v4 v5 v6 hU4 hb8 r0 r1
                have s0 := hrz.cell 0
                have s1 := hrz.cell 1
                have s2 := hrz.cell 2
                have s3 := hrz.cell 3
                have s4 := hrz.cell 4
                have s5 := hrz.cell 5
                have s6 := hrz.cell 6
                have y0 := hrz.free 0
                have y1 := hrz.free 1
                have y2 := hrz.free 2
                have y3 := hrz.free 3
                have y4 := hrz.free 4
                have y5 := hrz.free 5
                have y6 := hrz.free 6
                simp only [List.getElem?_cons_zero, List.getElem?_cons_succ] at s0 s1 s2 s3 s4 s5 s6
                go_wp2_with fail
                refine bodyPost_ret (v := .tuple #[.agg #[.slice none 0 0, .slice none 0 0, .int .i64 0, .int .u64 0, .int .u64 0, .int .u64 0, .int .u64 0], .int .i64 3]) (by simp [results, go_sem, *]) rfl ?_
                exact HZR.out w8 hrz hbz HB.out
              | true =>
                rw [hm] at hmay
                have HB := Lib.hid (HRE.out.trans (if_pos (by simp [Ed.good, hm])))
                have HM := Lib.hid hmay
                clear HRE hm hmay
                go_wp2_with fail
                refine HM.out.mono ?_
                rintro x w8 ⟨rfl, hb8⟩
                have hR8 := hU4.below hb8
                have hrA8 := (hrA.below hb8).up hb8.size
                clear s0 s1 s2 s3 s4 s5 s6 y0 y1 y2 y3 y4 y5 y6 v0 v1 v2 v3 v4 v5 v6 r0 r1
                have s0 := hR8.res.cell 0
                have s1 := hR8.res.cell 1
                have s2 := hR8.res.cell 2
                have s3 := hR8.res.cell 3
                have s4 := hR8.res.cell 4
                have s5 := hR8.res.cell 5
                have s6 := hR8.res.cell 6
                have y0 := hR8.res.free 0
                have y1 := hR8.res.free 1
                have y2 := hR8.res.free 2
                have y3 := hR8.res.free 3
                have y4 := hR8.res.free 4
                have y5 := hR8.res.free 5
                have y6 := hR8.res.free 6
                have v0 := hR8.e.cell 0
                have v1 := hR8.e.cell 1
                have v2 := hR8.e.cell 2
                have v3 := hR8.e.cell 3
                have v4 := hR8.e.cell 4
                have v5 := hR8.e.cell 5
                have v6 := hR8.e.cell 6
                simp only [List.getElem?_cons_zero, List.getElem?_cons_succ] at s0 s1 s2 s3 s4 s5 s6 v0 v1 v2 v3 v4 v5 v6
                have hCz := (((((((Chg.refl [w.heap.size] w8).setCell (p := ⟨w.heap.size, 0, none⟩) (.slice D k1 d) (.inl (by simp))).setCell (p := ⟨w.heap.size, 1, none⟩) (.slice A3 K d3) (.inl (by simp))).setCell (p := ⟨w.heap.size, 2, none⟩) (.int .i64 (lg : Int)) (.inl (by simp))).setCell (p := ⟨w.heap.size, 3, none⟩) (.int .u64 (fo : Int)) (.inl (by simp))).setCell (p := ⟨w.heap.size, 4, none⟩) (.int .u64 (ce : Int)) (.inl (by simp))).setCell (p := ⟨w.heap.size, 5, none⟩) (.int .u64 (at_ : Int)) (.inl (by simp))).setCell (p := ⟨w.heap.size, 6, none⟩) (.int .u64 (le : Int)) (.inl (by simp))
                have hbz := hR8.bel
                have hD8 := (hR8.dr.up (Nat.le_of_lt hR8.lt))
                have hDz := (hCz.row hD8 (Nat.le_refl _) (fun a ha h => by have := hR8.dl a ha; simp at h; omega)).up hCz.size
                have hAz := (hCz.row hrA8 (Nat.le_refl _) (fun a ha h => by have h1 := hlowA a ha; have h2 := hR8.hi; simp at h; omega)).up hCz.size
                have hpost : RdPost w R (.returned (.tuple #[.agg #[.slice D k1 d, .slice A3 K d3, .int .i64 (lg : Int), .int .u64 (fo : Int), .int .u64 (ce : Int), .int .u64 (at_ : Int), .int .u64 (le : Int)], .int .i64 0])) (((((((w8.setCell ⟨w.heap.size, 0, none⟩ (.slice D k1 d)).setCell ⟨w.heap.size, 1, none⟩ (.slice A3 K d3)).setCell ⟨w.heap.size, 2, none⟩ (.int .i64 (lg : Int))).setCell ⟨w.heap.size, 3, none⟩ (.int .u64 (fo : Int))).setCell ⟨w.heap.size, 4, none⟩ (.int .u64 (ce : Int))).setCell ⟨w.heap.size, 5, none⟩ (.int .u64 (at_ : Int))).setCell ⟨w.heap.size, 6, none⟩ (.int .u64 (le : Int))) := by
                  rw [HB.out]
                  refine ⟨D, k1, d, A3, K, d3, rfl, hDz, hAz, fun a ha => ?_, fun a ha => ?_, hbz.trans (hCz.below hbz.size (by simp))⟩
                  · have := hR8.dl a ha
                    omega
                  · have h1 := hlowA a ha
                    have h2 := hR8.hi
                    omega
                have HP := Lib.hid hpost
                clear hpost hCz hDz hAz hD8 hrA8 hbz hU4 hR8 hrA HB
                go_wp2_with fail
                refine bodyPost_ret (v := .tuple #[.agg #[.slice D k1 d, .slice A3 K d3, .int .i64 (lg : Int), .int .u64 (fo : Int), .int .u64 (ce : Int), .int .u64 (at_ : Int), .int .u64 (le : Int)], .int .i64 0]) (by simp [results, go_sem, *]) rfl ?_
                exact HP.out
end Go.Proofs.YthepokgkfaocmaaGreatDoor

/-
  The walk of the reference's Apply, for any View and any change.
-/
namespace Go.Proofs.YthepokgkfaocmaaGreatDoor
open Go Go.RowKit

/-- Where the reference's Apply stands: the View as given, the change, the result, the View that it makes. -/
structure Ra (w : World) (ec : List Value) (cs : List Value) (A : Option Addr) (n c : Nat) (fs : List (Int × Int)) (W : World) : Prop where
  e : BoxO W 39 (w.heap.size + 1) ec
  r : BoxO W 31 (w.heap.size + 1 + 1) [.int .i64 0, .slice none 0 0, .int .u64 0, .int .u64 0, .int .u64 0, .int .u64 0]
  o : BoxO W 31 (w.heap.size + 1 + 1 + 1) cs
  row : W.ownsRow (w.heap.size + 1 + 1 + 1 + 1) 114 2 (.slice A n c) n (fcells fs)
  bel : Below w.heap.size w W
variable {w W W' : World} {ec cs : List Value} {A : Option Addr} {n c : Nat} {fs : List (Int × Int)}
theorem Ra.lt (h : Ra w ec cs A n c fs W) : w.heap.size + 1 + 1 + 1 < W.heap.size := h.o.lt
theorem Ra.below (h : Ra w ec cs A n c fs W) (hb : Below W.heap.size W W') : Ra w ec cs A n c fs W' := ⟨h.e.below hb, h.r.below hb, h.o.below hb, own_below h.row hb, later_ h.bel hb⟩
theorem Ra.store (h : Ra w ec cs A n c fs W) (j : Nat) (u : Value) : Ra w ec (cs.set j u) A n c fs (W.setCell ⟨w.heap.size + 1 + 1 + 1, j, none⟩ u) :=
  have hc := chg_set W ⟨w.heap.size + 1 + 1 + 1, j, none⟩ u
  ⟨h.e.chg hc (by simp), h.r.chg hc (by simp), h.o.store j u, own_chg h.row hc (fun g hg hm => by have := (h.row.lt g hg).1; simp at hm; omega), h.bel.setCell (by simp; omega) u⟩
/-- A new row for it. -/
theorem Ra.renew {A' : Option Addr} {n' c' : Nat} {gs : List (Int × Int)} {g : Option Nat} (h : Ra w ec cs A n c fs W) (hg : W.grownBy W' g) (hgl : ∀ b, g = some b → w.heap.size + 1 + 1 + 1 + 1 ≤ b) (hr : W'.ownsRow (w.heap.size + 1 + 1 + 1 + 1) 114 2 (.slice A' n' c') n' (fcells gs)) : Ra w ec cs A' n' c' gs W' := by
  have hk : ∀ k, k < w.heap.size + 1 + 1 + 1 + 1 → W'.heap[k]? = W.heap[k]? := fun k hk => by
    refine hg.block k (by have := h.lt; omega) (fun e => ?_)
    have := hgl k e.symm
    omega
  exact ⟨(hk _ (by omega)).trans h.e, (hk _ (by omega)).trans h.r, (hk _ (by omega)).trans h.o, hr, h.bel.grown hg (Nat.le_of_lt (by have := h.lt; omega)) (fun b hb => by have := hgl b hb; omega)⟩

theorem dropAll_miss {ds : List Int} {k : Nat} {gs fs : List (Int × Int)} (h : k < ds.length) (hd : dropAll (ds.take k) fs = some gs) (hn : gs.any (fun f => f.2 == ds[k]) = false) : dropAll ds fs = none := by
  refine dropAll_stop (k := k + 1) ?_
  rw [dropAll_take h, hd]
  simp [drop1, hn]
theorem dropAll_hit {ds : List Int} {k i : Nat} {gs fs : List (Int × Int)} (h : k < ds.length) (hd : dropAll (ds.take k) fs = some gs) (hi : i < gs.length) (h1 : (gs[i]).2 = ds[k]) (h0 : ∀ j (hj : j < gs.length), j < i → (gs[j]).2 ≠ ds[k]) : dropAll (ds.take (k + 1)) fs = some (gs.eraseIdx i) := by
  rw [dropAll_take h, hd]
  have ha : gs.any (fun f => f.2 == ds[k]) = true := List.any_eq_true.2 ⟨_, List.getElem_mem hi, by simp [h1]⟩
  have hf : gs.findIdx (fun f => f.2 == ds[k]) = i := by
    rw [List.findIdx_eq hi]
    exact ⟨by simp [h1], fun j hj => by simpa using h0 j (by omega) hj⟩
  simp [drop1, ha, eraseP_at hi hf]
theorem any_miss {gs : List (Int × Int)} {x : Int} (h : ∀ j (hj : j < gs.length), (gs[j]).2 ≠ x) : gs.any (fun f => f.2 == x) = false := by
  rw [List.any_eq_false]
  intro g hg
  obtain ⟨j, hj, rfl⟩ := List.getElem_of_mem hg
  simpa using h j hj

set_option maxRecDepth 100000 in
set_option maxHeartbeats 4000000 in
theorem refapply_any (v : Vw) (A0 : Option Addr) (n0 c0 : Nat) (e : Ed) (D : Option Addr) (m d : Nat) (A2 : Option Addr) (n2 c2 : Nat) (w : World) (hn0 : n0 ≤ 100000) (hm : m ≤ 100000) (hn2 : n2 ≤ 100000) (hnc2 : n2 ≤ c2) (hcm2 : c2 ≤ maxLen)
    (hrv : Row w.heap.size w A0 n0 2 (fcells v.files)) (hrd : Row w.heap.size w D m 1 (icells e.drop)) (hra : Row w.heap.size w A2 n2 2 (fcells e.add)) :
    Calls Tryz.prog 36 #[v.val A0 n0 c0, e.val D m d A2 n2 c2] w (ApPost w (v.app e)) := by
  obtain ⟨i0, hi0, hz0, hz1, hz2⟩ := info_parts info_file
  have hap1 := fun h => app_none (v := v) (e := e) h
  have hap2 := fun fs h => app_some (v := v) (e := e) (fs := fs) h
  generalize v.app e = AP at *
  have HAP1 := Lib.hid hap1
  have HAP2 := Lib.hid hap2
  have hvl := hrv.flen
  have hdl := hrd.ilen
  have hal := hra.flen
  clear hap1 hap2
  unfold Vw.val Ed.val
  have zero : ∀ W, Below w.heap.size w W → AP = none → ApPost w AP (.returned (.tuple #[.agg #[.int .i64 0, .slice none 0 0, .int .u64 0, .int .u64 0, .int .u64 0, .int .u64 0], .bool false])) ((((((W.setCell ⟨w.heap.size + 1 + 1, 0, none⟩ (.int .i64 0)).setCell ⟨w.heap.size + 1 + 1, 1, none⟩ (.slice none 0 0)).setCell ⟨w.heap.size + 1 + 1, 2, none⟩ (.int .u64 0)).setCell ⟨w.heap.size + 1 + 1, 3, none⟩ (.int .u64 0)).setCell ⟨w.heap.size + 1 + 1, 4, none⟩ (.int .u64 0)).setCell ⟨w.heap.size + 1 + 1, 5, none⟩ (.int .u64 0)) := by
    intro W hb h
    rw [h]
    exact ⟨(((((hb.setCell (by simp; omega) _).setCell (by simp; omega) _).setCell (by simp; omega) _).setCell (by simp; omega) _).setCell (by simp; omega) _).setCell (by simp; omega) _, rfl⟩
  have HZ := Lib.hid zero
  clear zero
  go_enter Tryz.func36, Tryz.ntmps36
  go_wp2_with (at_builtin; refine stop_in ?_)
  have hR0 : Ra w [.slice D m d, .slice A2 n2 c2, .int .i64 e.log, .int .u64 (e.floor : Int), .int .u64 (e.cert : Int), .int .u64 (e.at_ : Int), .int .u64 (e.lease : Int)] [.int .i64 v.log, .slice A0 n0 c0, .int .u64 (v.floor : Int), .int .u64 (v.cert : Int), .int .u64 (v.at_ : Int), .int .u64 (v.lease : Int)] (some ⟨w.heap.size + 1 + 1 + 1 + 1, 0, none⟩) 0 0 [] (((((w.alloc (.cells #[.int .i64 v.log, .slice A0 n0 c0, .int .u64 (v.floor : Int), .int .u64 (v.cert : Int), .int .u64 (v.at_ : Int), .int .u64 (v.lease : Int)] 31)).alloc (.cells #[.slice D m d, .slice A2 n2 c2, .int .i64 e.log, .int .u64 (e.floor : Int), .int .u64 (e.cert : Int), .int .u64 (e.at_ : Int), .int .u64 (e.lease : Int)] 39)).alloc (.cells #[.int .i64 0, .slice none 0 0, .int .u64 0, .int .u64 0, .int .u64 0, .int .u64 0] 31)).alloc (.cells #[.int .i64 v.log, .slice A0 n0 c0, .int .u64 (v.floor : Int), .int .u64 (v.cert : Int), .int .u64 (v.at_ : Int), .int .u64 (v.lease : Int)] 31)).alloc (.cells #[] 114)) := by
    refine ⟨?_, ?_, ?_, ?_, ?_⟩
    · have h := BoxO.new (w.alloc (.cells #[.int .i64 v.log, .slice A0 n0 c0, .int .u64 (v.floor : Int), .int .u64 (v.cert : Int), .int .u64 (v.at_ : Int), .int .u64 (v.lease : Int)] 31)) #[.slice D m d, .slice A2 n2 c2, .int .i64 e.log, .int .u64 (e.floor : Int), .int .u64 (e.cert : Int), .int .u64 (e.at_ : Int), .int .u64 (e.lease : Int)] 39
      simp only [World.size_alloc] at h
      exact ((h.alloc _).alloc _).alloc _
    · have h := BoxO.new ((w.alloc (.cells #[.int .i64 v.log, .slice A0 n0 c0, .int .u64 (v.floor : Int), .int .u64 (v.cert : Int), .int .u64 (v.at_ : Int), .int .u64 (v.lease : Int)] 31)).alloc (.cells #[.slice D m d, .slice A2 n2 c2, .int .i64 e.log, .int .u64 (e.floor : Int), .int .u64 (e.cert : Int), .int .u64 (e.at_ : Int), .int .u64 (e.lease : Int)] 39)) #[.int .i64 0, .slice none 0 0, .int .u64 0, .int .u64 0, .int .u64 0, .int .u64 0] 31
      simp only [World.size_alloc] at h
      exact (h.alloc _).alloc _
    · have h := BoxO.new (((w.alloc (.cells #[.int .i64 v.log, .slice A0 n0 c0, .int .u64 (v.floor : Int), .int .u64 (v.cert : Int), .int .u64 (v.at_ : Int), .int .u64 (v.lease : Int)] 31)).alloc (.cells #[.slice D m d, .slice A2 n2 c2, .int .i64 e.log, .int .u64 (e.floor : Int), .int .u64 (e.cert : Int), .int .u64 (e.at_ : Int), .int .u64 (e.lease : Int)] 39)).alloc (.cells #[.int .i64 0, .slice none 0 0, .int .u64 0, .int .u64 0, .int .u64 0, .int .u64 0] 31)) #[.int .i64 v.log, .slice A0 n0 c0, .int .u64 (v.floor : Int), .int .u64 (v.cert : Int), .int .u64 (v.at_ : Int), .int .u64 (v.lease : Int)] 31
      simp only [World.size_alloc] at h
      exact h.alloc _
    · have h := BoxO.new ((((w.alloc (.cells #[.int .i64 v.log, .slice A0 n0 c0, .int .u64 (v.floor : Int), .int .u64 (v.cert : Int), .int .u64 (v.at_ : Int), .int .u64 (v.lease : Int)] 31)).alloc (.cells #[.slice D m d, .slice A2 n2 c2, .int .i64 e.log, .int .u64 (e.floor : Int), .int .u64 (e.cert : Int), .int .u64 (e.at_ : Int), .int .u64 (e.lease : Int)] 39)).alloc (.cells #[.int .i64 0, .slice none 0 0, .int .u64 0, .int .u64 0, .int .u64 0, .int .u64 0] 31)).alloc (.cells #[.int .i64 v.log, .slice A0 n0 c0, .int .u64 (v.floor : Int), .int .u64 (v.cert : Int), .int .u64 (v.at_ : Int), .int .u64 (v.lease : Int)] 31)) #[] 114
      simp only [World.size_alloc] at h
      exact ⟨rfl, .inr ⟨_, 0, #[], rfl, Nat.le_refl _, h, Nat.le_refl _, Nat.zero_le _, rfl, rfl⟩⟩
    · exact ((((((Below.refl w.heap.size w).alloc (Nat.le_refl _) _).alloc (by simp) _).alloc (by simp; omega) _).alloc (by simp; omega) _).alloc (by simp; omega) _)
  refine stop_out ?_
  generalize (((((w.alloc (.cells #[.int .i64 v.log, .slice A0 n0 c0, .int .u64 (v.floor : Int), .int .u64 (v.cert : Int), .int .u64 (v.at_ : Int), .int .u64 (v.lease : Int)] 31)).alloc (.cells #[.slice D m d, .slice A2 n2 c2, .int .i64 e.log, .int .u64 (e.floor : Int), .int .u64 (e.cert : Int), .int .u64 (e.at_ : Int), .int .u64 (e.lease : Int)] 39)).alloc (.cells #[.int .i64 0, .slice none 0 0, .int .u64 0, .int .u64 0, .int .u64 0, .int .u64 0] 31)).alloc (.cells #[.int .i64 v.log, .slice A0 n0 c0, .int .u64 (v.floor : Int), .int .u64 (v.cert : Int), .int .u64 (v.at_ : Int), .int .u64 (v.lease : Int)] 31)).alloc (.cells #[] 114)) = V5 at *
  have hrv5 := hrv.below hR0.bel
  refine wpList_appG rfl (.tmp 10) (.tmp 12) _ rfl (w.heap.size + 1 + 1 + 1 + 1) 114 i0 _ 2 16 Tryz.underlying28 hi0 hz0 hz1 hz2 rfl (by omega) (by have := hR0.lt; omega) (.slice (some ⟨w.heap.size + 1 + 1 + 1 + 1, 0, none⟩) 0 0) 0 [] rfl hR0.row w.heap.size A0 n0 c0 (fcells v.files) rfl hrv5 (fcells_one _) n0 (fcells v.files) (Nat.zero_add _) rfl (by unfold maxLen; omega) (by omega) ?_
  intro A1 c1 w1 ho1 hg1 hnc1 hcm1 hob1
  have hR1 := hR0.renew hg1 (fun b hb => (hR0.row.lt b hb).1) ho1
  clear hR0 ho1 hg1 hob1 hrv5
  have o1 := hR1.o.cell 1
  have y1 := hR1.o.free 1
  simp only [List.getElem?_cons_zero, List.getElem?_cons_succ] at o1
  have hR2 := hR1.store 1 (.slice A1 n0 c1)
  simp only [List.set_cons_succ, List.set_cons_zero] at hR2
  clear hR1
  go_wp2_with fail
  go_loopw [7] (fun i wr => ∃ (k : Nat) (A1 : Option Addr) (n1 c1 : Nat) (gs : List (Int × Int)), k ≤ m ∧ i = .int .i64 (k : Int) ∧ n1 ≤ n0 ∧ n1 ≤ c1 ∧ c1 ≤ maxLen ∧ Ra w [.slice D m d, .slice A2 n2 c2, .int .i64 e.log, .int .u64 (e.floor : Int), .int .u64 (e.cert : Int), .int .u64 (e.at_ : Int), .int .u64 (e.lease : Int)] [.int .i64 v.log, .slice A1 n1 c1, .int .u64 (v.floor : Int), .int .u64 (v.cert : Int), .int .u64 (v.at_ : Int), .int .u64 (v.lease : Int)] A1 n1 c1 gs wr ∧ Hid (dropAll (e.drop.take k) v.files = some gs)) (fun i _ => m - (intOf i).toNat)
  case atStart => exact ⟨0, A1, n0, c1, v.files, Nat.zero_le _, rfl, Nat.le_refl _, hnc1, hcm1, hR2, Lib.hid rfl⟩
  case round =>
    obtain ⟨k, A1, n1, c1, gs, hk, rfl, hn1, hnc1, hcm1, hR, hD⟩ := hrel
    clear hR2 o1 y1
    have q0 := hR.e.cell 0
    have p1 := hR.o.cell 1
    simp only [List.getElem?_cons_zero, List.getElem?_cons_succ] at q0 p1
    have hgl := (Row.own hR.row).flen
    by_cases hlt : k < m
    · obtain ⟨ad, hl, rfl, hbk, d0⟩ := (hrd.below hR.bel).int_ hlt
      have hmiss := fun h => dropAll_miss hl hD.out h
      have hhit := fun i hi h1 h0 => dropAll_hit (i := i) hl hD.out hi h1 h0
      generalize e.drop[k] = x at *
      have HM := Lib.hid hmiss
      have HH := Lib.hid hhit
      clear hmiss hhit hD
      go_wp2
      go_loopw [8] (fun j w2 => ∃ t q : Nat, t ≤ n1 ∧ j = .int .i64 (t : Int) ∧ Hid (∀ i (hi : i < gs.length), i < t → (gs[i]).2 ≠ x) ∧ w2 = wr.drewN q) (fun j _ => n1 - (intOf j).toNat)
      case atStart => exact ⟨0, 0, Nat.zero_le _, rfl, Lib.hid (fun i hi h => by omega), rfl⟩
      case round =>
        obtain ⟨t, q, ht, rfl, hg, rfl⟩ := hrel
        by_cases hlt2 : t < n1
        · obtain ⟨ad2, hl2, rfl, hbk2, c0', c1'⟩ := (Row.own hR.row).file hlt2
          have hnx : (gs[t]).2 ≠ x → ∀ i (hi : i < gs.length), i < t + 1 → (gs[i]).2 ≠ x := fun e i hi h => by
            rcases Nat.lt_or_ge i t with h1 | h1
            · exact hg.out i hi h1
            · obtain rfl : i = t := by omega
              exact e
          have hht := fun h1 => HH.out t hl2 h1 hg.out
          generalize gs[t] = y at *
          obtain ⟨y0, y1⟩ := y
          simp only at c0' c1' hnx hht
          have H1 := Lib.hid hnx
          have H2 := Lib.hid hht
          clear hnx hht hg HH HM
          by_cases hx : y1 = x
          · have H3 := Lib.hid (H2.out hx)
            subst hx
            clear H1 H2
            go_wp2_with fail
            go_quiet (fail)
            have ht9 : ((t : Int) == (n1 : Int)) = false := by simp; omega
            go_wp2
            have hRV := hR.below (below_drewN (Below.refl _ _) (q + nq))
            generalize wr.drewN (q + nq) = V at *
            have f1 := hRV.o.free 1
            have o1 := hRV.o.cell 1
            simp only [List.getElem?_cons_zero, List.getElem?_cons_succ] at o1
            have o1u := fun o => (World.cell?_alloc_lt V o _ (World.block_lt_of_cell? V _ o1)).trans o1
            have hic : t ≤ c1 := by omega
            have hic1 : t + 1 ≤ c1 := by omega
            have hin1 : t + 1 ≤ n1 := by omega
            have hji : 0 ≤ (t : Int) + 1 ∧ (t : Int) + 1 ≤ (n1 : Int) := by omega
            have hjc : (n1 : Int) ≤ (c1 : Int) := by omega
            have hj0 : (0 : Int) ≤ (t : Int) := by omega
            have hwt : IntKind.i64.wrap ((t : Int) + 1) = (t : Int) + 1 := by rw [IntKind.wrap_i64]; omega
            have htn : ((t : Int) + 1).toNat = t + 1 := by omega
            have hj1 : (t : Int) ≤ (c1 : Int) := by omega
            have HRV := Lib.hid hRV
            have hrowV := Row.own hRV.row
            obtain ⟨A9, hA9⟩ : ∃ A9, (if c1 = t + 1 then some ad2 else some (ad2.add ((t + 1) * 2))) = A9 := ⟨_, rfl⟩
            have hRW : ∀ w', Below V.heap.size V w' → Row V.heap.size w' (some ad2) t 2 (fcells (gs.take t)) ∧ Row V.heap.size w' A9 (n1 - (t + 1)) 2 (fcells (gs.drop (t + 1))) := fun w' hb => by
              refine ⟨?_, ?_⟩
              · have h := (hrowV.pre (m := t) (by omega)).below hb
                rwa [← fcells_take] at h
              · have h := (hrowV.cut (k := t + 1) (m := n1) (A' := A9) (by omega) (Nat.le_refl _) (fun hlt => by rw [← hA9, if_neg (by omega)]; rfl)).below hb
                rw [← fcells_drop] at h
                rwa [List.take_of_length_le (by rw [fcells_len, List.length_drop]; omega)] at h
            have HRW := Lib.hid hRW
            have hown0 : (V.drew.alloc (.cells #[] 114)).ownsRow V.heap.size 114 2 (.slice (some ⟨V.heap.size, 0, none⟩) 0 0) 0 [] := ⟨rfl, .inr ⟨_, 0, #[], rfl, Nat.le_refl _, BoxO.new V.drew #[] 114, Nat.le_refl _, Nat.zero_le _, rfl, rfl⟩⟩
            have hbA := ((Below.refl V.heap.size V).drew).alloc (Nat.le_refl _) (.cells #[] 114)
            have HOW := Lib.hid hown0
            have HBA := Lib.hid hbA
            have herase : fcells (gs.take t) ++ fcells (gs.drop (t + 1)) = fcells (gs.eraseIdx t) := by rw [← fcells_app, ← List.eraseIdx_eq_take_drop_succ]
            have HER := Lib.hid herase
            clear hR hRV c0' c1' d0 q0 p1 hRW hrowV hown0 hbA herase hrv hrd hra
            go_region_law (first
              | (refine step_appG rfl (.tmp 49) (.tmp 53) _ rfl V.heap.size 114 i0 _ 2 16 Tryz.underlying28 hi0 hz0 hz1 hz2 rfl (by omega) (by simp) (.slice (some ⟨V.heap.size, 0, none⟩) 0 0) 0 [] rfl HOW.out V.heap.size (some ad2) t c1 (fcells (gs.take t)) rfl (HRW.out _ HBA.out).1 (fcells_one _) t (fcells (gs.take t)) (Nat.zero_add _) rfl (by unfold maxLen; omega) (by omega) ?_; intro A5 c5 w5 ho5 hg5 hnc5 hcm5 hob5; have hb5 := HBA.out.grown hg5 (by simp) (fun b hb => (HOW.out.lt b hb).1); have p5 := (HRV.out.below hb5).o.cell 1; simp only [List.getElem?_cons_zero, List.getElem?_cons_succ] at p5; have HO5 := Lib.hid ho5; have HB5 := Lib.hid hb5; clear ho5 hb5 hg5 hob5)
              | (refine step_appG rfl (.tmp 54) (.tmp 59) _ rfl V.heap.size 114 i0 _ 2 16 Tryz.underlying28 hi0 hz0 hz1 hz2 rfl (by omega) HB5.out.size (.slice A5 t c5) t (fcells (gs.take t)) rfl HO5.out V.heap.size A9 (n1 - (t + 1)) (c1 - (t + 1)) (fcells (gs.drop (t + 1))) rfl (HRW.out _ HB5.out).2 (fcells_one _) (n1 - 1) (fcells (gs.eraseIdx t)) (by omega) HER.out (by unfold maxLen; omega) (by omega) ?_; intro A6 c6 w6 ho6 hg6 hnc6 hcm6 hob6; have hb6 := HB5.out.grown hg6 HB5.out.size (fun b hb => (HO5.out.lt b hb).1); have hR6 := HRV.out.below hb6; have p6 := hR6.o.cell 1; have z6 := hR6.o.free 1; simp only [List.getElem?_cons_zero, List.getElem?_cons_succ] at p6; have HO6 := Lib.hid ho6; clear ho6 hb6 hg6 hob6))
            all_goals
              have hbs := HRV.out.lt
              have hRf := Ra.store (⟨hR6.e, hR6.r, hR6.o, own_base HO6.out (by omega), hR6.bel⟩ : Ra w _ _ A6 (n1 - 1) c6 (gs.eraseIdx t) w6) 1 (.slice A6 (n1 - 1) c6)
              simp only [List.set_cons_succ, List.set_cons_zero] at hRf
              clear hR6 HO6 HB5 HO5 HRV HRW HOW HBA HER p6 z6 p5
              go_wp2_with fail
              go_roundw
              case rel => exact ⟨k + 1, A6, n1 - 1, c6, gs.eraseIdx t, by omega, by go_num, by omega, hnc6, hcm6, hRf, H3⟩
              case measure => simp [intOf]; omega
          · have H8 := Lib.hid (H1.out hx)
            clear H1 H2
            go_wp2_with fail
            go_quiet (fail)
            go_wp2
            go_roundw
            case rel => exact ⟨t + 1, _, by omega, by go_num, H8, rfl⟩
            case measure => simp [intOf]; omega
        · obtain rfl : n1 = t := by omega
          have hnone := HM.out (any_miss (fun j hj => hg.out j hj (by omega)))
          have HN := Lib.hid (HAP1.out hnone)
          have s0 := hR.r.cell 0
          have s1 := hR.r.cell 1
          have s2 := hR.r.cell 2
          have s3 := hR.r.cell 3
          have s4 := hR.r.cell 4
          have s5 := hR.r.cell 5
          have y0 := hR.r.free 0
          have y1 := hR.r.free 1
          have y2 := hR.r.free 2
          have y3 := hR.r.free 3
          have y4 := hR.r.free 4
          have y5 := hR.r.free 5
          simp only [List.getElem?_cons_zero, List.getElem?_cons_succ] at s0 s1 s2 s3 s4 s5
          have hbz := hR.bel
          clear hnone HM HH hg hR
          go_wp2_with fail
          go_quiet (fail)
          go_wp2
          refine bodyPost_ret (v := .tuple #[.agg #[.int .i64 0, .slice none 0 0, .int .u64 0, .int .u64 0, .int .u64 0, .int .u64 0], .bool false]) (by simp [results, go_sem, *]) rfl ?_
          exact HZ.out _ (below_drewN hbz _) HN.out
    · obtain rfl : m = k := by omega
      have hdd : dropAll e.drop v.files = some gs := by
        have h := hD.out
        rwa [List.take_of_length_le (by omega)] at h
      have hAP := HAP2.out gs hdd
      obtain ⟨lg, hlg⟩ : ∃ x, x = if e.log = 0 then v.log else e.log := ⟨_, rfl⟩
      obtain ⟨fo, hfo⟩ : ∃ x, x = orElse e.floor v.floor := ⟨_, rfl⟩
      obtain ⟨ce, hce⟩ : ∃ x, x = orElse e.cert v.cert := ⟨_, rfl⟩
      obtain ⟨at_, hat⟩ : ∃ x, x = orElse e.at_ v.at_ := ⟨_, rfl⟩
      obtain ⟨le, hle⟩ : ∃ x, x = orElse e.lease v.lease := ⟨_, rfl⟩
      have hmix : v.mix e gs = ⟨lg, gs ++ e.add, fo, ce, at_, le⟩ := by rw [hlg, hfo, hce, hat, hle]; rfl
      rw [hmix] at hAP
      have HAP := Lib.hid hAP
      have HLG := Lib.hid hlg
      have HFO := Lib.hid hfo
      have HCE := Lib.hid hce
      have HAT := Lib.hid hat
      have HLE := Lib.hid hle
      obtain ⟨N3, hN3⟩ : ∃ N3, n1 + n2 = N3 := ⟨_, rfl⟩
      clear hdd hAP hlg hfo hce hat hle hmix HAP1 HAP2 hD
      have a1 := hR.e.cell 1
      have p1f := hR.o.free 1
      simp only [List.getElem?_cons_zero, List.getElem?_cons_succ] at a1
      go_wp2_with (at_builtin; refine stop_in ?_)
      have hra5 := hra.below hR.bel
      refine stop_out (wpList_appG rfl (.tmp 63) (.tmp 65) _ rfl (w.heap.size + 1 + 1 + 1 + 1) 114 i0 _ 2 16 Tryz.underlying28 hi0 hz0 hz1 hz2 rfl (by omega) (by have := hR.lt; omega) (.slice A1 n1 c1) n1 (fcells gs) rfl hR.row w.heap.size A2 n2 c2 (fcells e.add) rfl hra5 (fcells_one _) N3 (fcells (gs ++ e.add)) hN3 (fcells_app _ _).symm (by unfold maxLen; omega) (by omega) ?_)
      intro A3 c3 w3 ho3 hg3 hnc3 hcm3 hob3
      have hR3 := hR.renew hg3 (fun b hb => (hR.row.lt b hb).1) ho3
      have o1 := hR3.o.cell 1
      have y1 := hR3.o.free 1
      simp only [List.getElem?_cons_zero, List.getElem?_cons_succ] at o1
      have hR4 := hR3.store 1 (.slice A3 N3 c3)
      simp only [List.set_cons_succ, List.set_cons_zero] at hR4
      clear hR hR3 ho3 hg3 hob3 hra5 a1 p1f q0 p1 hgl
      have e2 := hR4.e.cell 2
      simp only [List.getElem?_cons_zero, List.getElem?_cons_succ] at e2
      have hlt := o1
      clear hlt
      go_upto_if 70 with (fail)
      go_cut [] (fun wx => Ra w [.slice D m d, .slice A2 n2 c2, .int .i64 e.log, .int .u64 (e.floor : Int), .int .u64 (e.cert : Int), .int .u64 (e.at_ : Int), .int .u64 (e.lease : Int)] [.int .i64 lg, .slice A3 N3 c3, .int .u64 (v.floor : Int), .int .u64 (v.cert : Int), .int .u64 (v.at_ : Int), .int .u64 (v.lease : Int)] A3 N3 c3 (gs ++ e.add) wx)
      case first =>
        by_cases h0 : e.log = 0
        · have hq : lg = v.log := HLG.out.trans (if_pos h0)
          rw [h0] at e2
          go_wp2_with fail
          go_meet
          case rel =>
            rw [hq]
            exact hR4
        · have hq : lg = e.log := HLG.out.trans (if_neg h0)
          have hne : ¬ (e.log : Int) = 0 := by omega
          have o0 := hR4.o.cell 0
          have z0 := hR4.o.free 0
          simp only [List.getElem?_cons_zero, List.getElem?_cons_succ] at o0
          have hRs := hR4.store 0 (.int .i64 e.log)
          simp only [List.set_cons_succ, List.set_cons_zero] at hRs
          go_wp2_with fail
          go_meet
          case rel =>
            rw [hq]
            exact hRs
      case rest =>
      have hR5 := hcut
      clear hcut hR4 e2 o1 y1
      have e3 := hR5.e.cell 3
      simp only [List.getElem?_cons_zero, List.getElem?_cons_succ] at e3
      go_upto_if 76 with (fail)
      go_cut [] (fun wx => Ra w [.slice D m d, .slice A2 n2 c2, .int .i64 e.log, .int .u64 (e.floor : Int), .int .u64 (e.cert : Int), .int .u64 (e.at_ : Int), .int .u64 (e.lease : Int)] [.int .i64 lg, .slice A3 N3 c3, .int .u64 (fo : Int), .int .u64 (v.cert : Int), .int .u64 (v.at_ : Int), .int .u64 (v.lease : Int)] A3 N3 c3 (gs ++ e.add) wx)
      case first =>
        by_cases h0 : e.floor = 0
        · have hq : fo = v.floor := HFO.out.trans (if_pos h0)
          rw [h0] at e3
          go_wp2_with fail
          go_meet
          case rel =>
            rw [hq]
            exact hR5
        · have hq : fo = e.floor := HFO.out.trans (if_neg h0)
          have hne : ¬ (e.floor : Int) = 0 := by omega
          have o0 := hR5.o.cell 2
          have z0 := hR5.o.free 2
          simp only [List.getElem?_cons_zero, List.getElem?_cons_succ] at o0
          have hRs := hR5.store 2 (.int .u64 (e.floor : Int))
          simp only [List.set_cons_succ, List.set_cons_zero] at hRs
          go_wp2_with fail
          go_meet
          case rel =>
            rw [hq]
            exact hRs
      case rest =>
      have hR6 := hcut
      clear hcut hR5 e3
      have e4 := hR6.e.cell 4
      simp only [List.getElem?_cons_zero, List.getElem?_cons_succ] at e4
      go_upto_if 82 with (fail)
      go_cut [] (fun wx => Ra w [.slice D m d, .slice A2 n2 c2, .int .i64 e.log, .int .u64 (e.floor : Int), .int .u64 (e.cert : Int), .int .u64 (e.at_ : Int), .int .u64 (e.lease : Int)] [.int .i64 lg, .slice A3 N3 c3, .int .u64 (fo : Int), .int .u64 (ce : Int), .int .u64 (v.at_ : Int), .int .u64 (v.lease : Int)] A3 N3 c3 (gs ++ e.add) wx)
      case first =>
        by_cases h0 : e.cert = 0
        · have hq : ce = v.cert := HCE.out.trans (if_pos h0)
          rw [h0] at e4
          go_wp2_with fail
          go_meet
          case rel =>
            rw [hq]
            exact hR6
        · have hq : ce = e.cert := HCE.out.trans (if_neg h0)
          have hne : ¬ (e.cert : Int) = 0 := by omega
          have o0 := hR6.o.cell 3
          have z0 := hR6.o.free 3
          simp only [List.getElem?_cons_zero, List.getElem?_cons_succ] at o0
          have hRs := hR6.store 3 (.int .u64 (e.cert : Int))
          simp only [List.set_cons_succ, List.set_cons_zero] at hRs
          go_wp2_with fail
          go_meet
          case rel =>
            rw [hq]
            exact hRs
      case rest =>
      have hR7 := hcut
      clear hcut hR6 e4
      have e5 := hR7.e.cell 5
      simp only [List.getElem?_cons_zero, List.getElem?_cons_succ] at e5
      go_upto_if 88 with (fail)
      go_cut [] (fun wx => Ra w [.slice D m d, .slice A2 n2 c2, .int .i64 e.log, .int .u64 (e.floor : Int), .int .u64 (e.cert : Int), .int .u64 (e.at_ : Int), .int .u64 (e.lease : Int)] [.int .i64 lg, .slice A3 N3 c3, .int .u64 (fo : Int), .int .u64 (ce : Int), .int .u64 (at_ : Int), .int .u64 (v.lease : Int)] A3 N3 c3 (gs ++ e.add) wx)
      case first =>
        by_cases h0 : e.at_ = 0
        · have hq : at_ = v.at_ := HAT.out.trans (if_pos h0)
          rw [h0] at e5
          go_wp2_with fail
          go_meet
          case rel =>
            rw [hq]
            exact hR7
        · have hq : at_ = e.at_ := HAT.out.trans (if_neg h0)
          have hne : ¬ (e.at_ : Int) = 0 := by omega
          have o0 := hR7.o.cell 4
          have z0 := hR7.o.free 4
          simp only [List.getElem?_cons_zero, List.getElem?_cons_succ] at o0
          have hRs := hR7.store 4 (.int .u64 (e.at_ : Int))
          simp only [List.set_cons_succ, List.set_cons_zero] at hRs
          go_wp2_with fail
          go_meet
          case rel =>
            rw [hq]
            exact hRs
      case rest =>
      have hR8 := hcut
      clear hcut hR7 e5
      have e6 := hR8.e.cell 6
      simp only [List.getElem?_cons_zero, List.getElem?_cons_succ] at e6
      go_upto_if 94 with (fail)
      go_cut [] (fun wx => Ra w [.slice D m d, .slice A2 n2 c2, .int .i64 e.log, .int .u64 (e.floor : Int), .int .u64 (e.cert : Int), .int .u64 (e.at_ : Int), .int .u64 (e.lease : Int)] [.int .i64 lg, .slice A3 N3 c3, .int .u64 (fo : Int), .int .u64 (ce : Int), .int .u64 (at_ : Int), .int .u64 (le : Int)] A3 N3 c3 (gs ++ e.add) wx)
      case first =>
        by_cases h0 : e.lease = 0
        · have hq : le = v.lease := HLE.out.trans (if_pos h0)
          rw [h0] at e6
          go_wp2_with fail
          go_meet
          case rel =>
            rw [hq]
            exact hR8
        · have hq : le = e.lease := HLE.out.trans (if_neg h0)
          have hne : ¬ (e.lease : Int) = 0 := by omega
          have o0 := hR8.o.cell 5
          have z0 := hR8.o.free 5
          simp only [List.getElem?_cons_zero, List.getElem?_cons_succ] at o0
          have hRs := hR8.store 5 (.int .u64 (e.lease : Int))
          simp only [List.set_cons_succ, List.set_cons_zero] at hRs
          go_wp2_with fail
          go_meet
          case rel =>
            rw [hq]
            exact hRs
      case rest =>
      have hR9 := hcut
      clear hcut hR8 e6
      have u0 := hR9.o.cell 0
      have u1 := hR9.o.cell 1
      have u2 := hR9.o.cell 2
      have u3 := hR9.o.cell 3
      have u4 := hR9.o.cell 4
      have u5 := hR9.o.cell 5
      simp only [List.getElem?_cons_zero, List.getElem?_cons_succ] at u0 u1 u2 u3 u4 u5
      have hvo := viewok_any ⟨lg, gs ++ e.add, fo, ce, at_, le⟩ A3 N3 c3 wc (by omega) (Row.own hR9.row)
      unfold Vw.val at hvo
      simp only at hvo
      cases hok : Vw.ok ⟨lg, gs ++ e.add, fo, ce, at_, le⟩ with
      | false =>
        rw [hok] at hvo
        have HN := Lib.hid (HAP.out.trans (if_neg (by rw [hok]; simp)))
        have HVO := Lib.hid hvo
        clear hvo hok HAP
        go_wp2_with fail
        refine HVO.out.mono ?_
        rintro x w4 ⟨rfl, hb4⟩
        have hRz := hR9.below hb4
        clear u0 u1 u2 u3 u4 u5 hR9 hb4 HVO
        have s0 := hRz.r.cell 0
        have y0 := hRz.r.free 0
        have s1 := hRz.r.cell 1
        have y1 := hRz.r.free 1
        have s2 := hRz.r.cell 2
        have y2 := hRz.r.free 2
        have s3 := hRz.r.cell 3
        have y3 := hRz.r.free 3
        have s4 := hRz.r.cell 4
        have y4 := hRz.r.free 4
        have s5 := hRz.r.cell 5
        have y5 := hRz.r.free 5
        simp only [List.getElem?_cons_zero, List.getElem?_cons_succ] at s0 s1 s2 s3 s4 s5
        have hbz := hRz.bel
        clear hRz
        go_wp2_with fail
        refine bodyPost_ret (v := .tuple #[.agg #[.int .i64 0, .slice none 0 0, .int .u64 0, .int .u64 0, .int .u64 0, .int .u64 0], .bool false]) (by simp [results, go_sem, *]) rfl ?_
        exact HZ.out _ hbz HN.out
      | true =>
        rw [hok] at hvo
        have HN := Lib.hid (HAP.out.trans (if_pos hok))
        have HVO := Lib.hid hvo
        clear hvo hok HAP
        go_wp2_with fail
        refine HVO.out.mono ?_
        rintro x w4 ⟨rfl, hb4⟩
        have hRz := hR9.below hb4
        clear u0 u1 u2 u3 u4 u5 hR9 hb4 HVO
        have s0 := hRz.r.cell 0
        have y0 := hRz.r.free 0
        have u0 := hRz.o.cell 0
        have s1 := hRz.r.cell 1
        have y1 := hRz.r.free 1
        have u1 := hRz.o.cell 1
        have s2 := hRz.r.cell 2
        have y2 := hRz.r.free 2
        have u2 := hRz.o.cell 2
        have s3 := hRz.r.cell 3
        have y3 := hRz.r.free 3
        have u3 := hRz.o.cell 3
        have s4 := hRz.r.cell 4
        have y4 := hRz.r.free 4
        have u4 := hRz.o.cell 4
        have s5 := hRz.r.cell 5
        have y5 := hRz.r.free 5
        have u5 := hRz.o.cell 5
        simp only [List.getElem?_cons_zero, List.getElem?_cons_succ] at s0 s1 s2 s3 s4 s5 u0 u1 u2 u3 u4 u5
        have hCz := (((((((Chg.refl [w.heap.size + 1 + 1] w4).setCell (p := ⟨w.heap.size + 1 + 1, 0, none⟩) (.int .i64 lg) (.inl (by simp))).setCell (p := ⟨w.heap.size + 1 + 1, 1, none⟩) (.slice A3 N3 c3) (.inl (by simp))).setCell (p := ⟨w.heap.size + 1 + 1, 2, none⟩) (.int .u64 (fo : Int)) (.inl (by simp))).setCell (p := ⟨w.heap.size + 1 + 1, 3, none⟩) (.int .u64 (ce : Int)) (.inl (by simp))).setCell (p := ⟨w.heap.size + 1 + 1, 4, none⟩) (.int .u64 (at_ : Int)) (.inl (by simp))).setCell (p := ⟨w.heap.size + 1 + 1, 5, none⟩) (.int .u64 (le : Int)) (.inl (by simp)))
        have hfr : Fresh (w.heap.size + 1 + 1 + 1 + 1) w4 A3 N3 c3 (gs ++ e.add) := own_fresh hRz.row (Nat.le_refl _)
        have hfz := (hfr.chg hCz (fun a ha hm => by have := hfr.low a ha; simp at hm; omega)).base (B' := w.heap.size) (by omega)
        have hbz := hRz.bel.trans (hCz.below hRz.bel.size (by simp; omega))
        have hpost : ApPost w AP (.returned (.tuple #[.agg #[.int .i64 lg, .slice A3 N3 c3, .int .u64 (fo : Int), .int .u64 (ce : Int), .int .u64 (at_ : Int), .int .u64 (le : Int)], .bool true])) ((((((w4.setCell ⟨w.heap.size + 1 + 1, 0, none⟩ (.int .i64 lg)).setCell ⟨w.heap.size + 1 + 1, 1, none⟩ (.slice A3 N3 c3)).setCell ⟨w.heap.size + 1 + 1, 2, none⟩ (.int .u64 (fo : Int))).setCell ⟨w.heap.size + 1 + 1, 3, none⟩ (.int .u64 (ce : Int))).setCell ⟨w.heap.size + 1 + 1, 4, none⟩ (.int .u64 (at_ : Int))).setCell ⟨w.heap.size + 1 + 1, 5, none⟩ (.int .u64 (le : Int))) := by
          rw [HN.out]
          exact ⟨hbz, A3, N3, c3, rfl, hfz⟩
        have HP := Lib.hid hpost
        clear hpost hCz hfr hfz hbz hRz HN
        go_wp2_with fail
        refine bodyPost_ret (v := .tuple #[.agg #[.int .i64 lg, .slice A3 N3 c3, .int .u64 (fo : Int), .int .u64 (ce : Int), .int .u64 (at_ : Int), .int .u64 (le : Int)], .bool true]) (by simp [results, go_sem, *]) rfl ?_
        exact HP.out
end Go.Proofs.YthepokgkfaocmaaGreatDoor
