/- Texts EditE, EditF in one. No conditions. -/
import Derived.Test.YthepokgkfaocmaaGreatDoorBunC
import Derived.Test.YthepokgkfaocmaaGreatDoorBunB
import Derived.Deep.CutBlock
import Derived.Test.YthepokgkfaocmaaGreatDoorBunD

/-
  The walk of edit.Read, for changes that speak of no files.
-/
namespace Go.Proofs.YthepokgkfaocmaaGreatDoor
open Go.RowKit

/-- The reader takes a number that stands there: with its block. -/
theorem rtake2 (B R : Nat) (hB : B ≤ R) (A : Option Addr) (N c : Nat) (n most : Nat) (r : List UInt8) (w : World) (hN : N ≤ 1000000000) (hNc : N ≤ c) (hn : n ≤ most) (hm : most < 18446744073709551616)
    (hR : BoxO w 193 R [.slice A N c, .bool true]) (hr : Row B w A N 1 (bts (Pn.put n ++ r))) :
    Calls Tryz.prog 128 #[.pointer (some ⟨R, 0, none⟩), .int .u64 (most : Int)] w fun e w' => ∃ A' N' c', e = .returned (.int .u64 (n : Int)) ∧ N' ≤ c' ∧ N' ≤ N ∧ Row B w' A' N' 1 (bts r) ∧ BoxO w' 193 R [.slice A' N' c', .bool true] ∧ Chg [R] w w' := by
  have h0 := hR.cell 0
  have h1 := hR.cell 1
  have hf := hR.free 0
  have ht := take_any A N c (Pn.put n ++ r) w (by omega) (hr.up (Nat.le_trans hB (Nat.le_of_lt hR.lt)))
  rw [Pn.take_put n r (by omega)] at ht
  obtain ⟨s, hs⟩ : ∃ s, (Pn.put n).length = s := ⟨_, rfl⟩
  have hs1 := (Pn.put_len n).1
  have hln := hr.btlen
  have hsN : s ≤ N := by rw [List.length_append] at hln; omega
  have hcut : ∀ A', (s < N → A' = A.map (·.add s)) → Row B w A' (N - s) 1 (bts r) := by
    intro A' hA
    have h := hr.cut (A' := A') hsN (Nat.le_refl N) (fun hlt => by rw [Nat.mul_one]; exact hA hlt)
    rw [Nat.mul_one, Nat.mul_one, ← bts_drop, ← bts_take, ← hs, List.drop_left] at h
    rwa [List.take_of_length_le (by rw [List.length_append] at hln; omega), hs] at h
  have hn' : ((most : Int) < (n : Int)) = False := by simp; omega
  rw [hs] at ht
  simp only [List.getElem?_cons_zero, List.getElem?_cons_succ] at h0 h1
  go_enter Tryz.func128, Tryz.ntmps128
  go_wp2_with fail
  refine ht.mono ?_
  rintro e w1 ⟨rfl, rfl⟩
  clear ht
  obtain ⟨A', hA'⟩ : ∃ A', (if c = s then A else Option.map (fun x => x.add s) A) = A' := ⟨_, rfl⟩
  have hrow := hcut A' (fun hlt => by rw [← hA', if_neg (by omega)])
  go_wp2
  go_ret
  exact ⟨A', N - s, c - s, rfl, by omega, by omega, hrow.setCell hB _, hR.store 0 _, chg_set w ⟨R, 0, none⟩ _⟩

set_option maxRecDepth 100000 in
set_option maxHeartbeats 2000000 in
theorem eread_bare (A : Option Addr) (N c0 : Nat) (g f c a l : Nat) (w : World) (hg : g ≤ 1073741824) (hb : bigs [f, c, a, l] = false) (hN : N ≤ 100000000) (hNc : N ≤ c0) (hr : Row w.heap.size w A N 1 (bts (Ed.bytes ⟨[], [], g, f, c, a, l⟩))) :
    Calls Tryz.prog 107 #[.slice A N c0] w fun e w' => e = .returned (.tuple #[edV g f c a l, .int .i64 0]) ∧ Below w.heap.size w w' := by
  have hbd : f ≤ 281474976710656 ∧ c ≤ 281474976710656 ∧ a ≤ 281474976710656 ∧ l ≤ 281474976710656 := by
    simp [bigs] at hb
    omega
  have hmay := fun W => may_bare g f c a l W hg hb
  have HMAY := Lib.hid hmay
  clear hmay hb
  have hbs : Ed.bytes ⟨[], [], g, f, c, a, l⟩ = Pn.put 0 ++ (Pn.put 0 ++ (Pn.put g ++ (Pn.put f ++ (Pn.put c ++ (Pn.put a ++ (Pn.put l ++ [])))))) := by simp [Ed.bytes, Pn.list]
  rw [hbs] at hr
  clear hbs
  have hln := hr.btlen
  have hN1 : 7 ≤ N := by
    have h0 := (Pn.put_len 0).1
    have h1 := (Pn.put_len g).1
    have h2 := (Pn.put_len f).1
    have h3 := (Pn.put_len c).1
    have h4 := (Pn.put_len a).1
    have h5 := (Pn.put_len l).1
    simp only [List.length_append, List.length_nil] at hln
    omega
  unfold edV at *
  obtain ⟨a0, rfl, _⟩ := hr.some_ (by rw [bts_length]; omega)
  have hr1 : Row w.heap.size w (some ⟨a0.block, a0.off + 1, none⟩) (N - 1) 1 (bts (Pn.put 0 ++ (Pn.put g ++ (Pn.put f ++ (Pn.put c ++ (Pn.put a ++ (Pn.put l ++ []))))))) := by
    have h := hr.cut (A' := some ⟨a0.block, a0.off + 1, none⟩) (k := 1) (by omega) (Nat.le_refl N) (fun hlt => rfl)
    rw [Nat.mul_one, Nat.mul_one, ← bts_drop, ← bts_take] at h
    have e1 : (Pn.put 0).length = 1 := by decide
    rw [← e1, List.drop_left, e1] at h
    rwa [List.take_of_length_le (by rw [List.length_append, e1] at hln; omega)] at h
  have hun := fun W (hW : Row W.heap.size W (some a0) N 1 (bts (Pn.put 0 ++ (Pn.put 0 ++ (Pn.put g ++ (Pn.put f ++ (Pn.put c ++ (Pn.put a ++ (Pn.put l ++ []))))))))) => unlist_none (some a0) N c0 _ 40 W (by omega) (by omega) hW
  have HUN := Lib.hid hun
  have HR := Lib.hid hr
  have HR1 := Lib.hid hr1
  clear hun hr hr1 hln
  go_enter Tryz.func107, Tryz.ntmps107
  go_wp2_with fail
  refine (HUN.out _ ((((HR.out).alloc (Nat.le_refl _) _).alloc (by simp) _).up (by simp; omega))).mono ?_
  rintro e w1 ⟨rfl, rfl⟩
  go_wp2
  go_loopw [23] (fun x wr => x = .int .i64 0 ∧ wr = ((w.alloc (.cells #[.slice none 0 0, .slice none 0 0, .int .i64 0, .int .u64 0, .int .u64 0, .int .u64 0, .int .u64 0] 39)).alloc (.cells #[.slice none 0 0, .slice none 0 0, .int .i64 0, .int .u64 0, .int .u64 0, .int .u64 0, .int .u64 0] 39))) (fun _ _ => 0)
  case atStart => exact ⟨rfl, rfl⟩
  case round =>
    obtain ⟨rfl, rfl⟩ := hrel
    go_wp2_with fail
    have hV : Below w.heap.size w (((w.alloc (.cells #[.slice none 0 0, .slice none 0 0, .int .i64 0, .int .u64 0, .int .u64 0, .int .u64 0, .int .u64 0] 39)).alloc (.cells #[.slice none 0 0, .slice none 0 0, .int .i64 0, .int .u64 0, .int .u64 0, .int .u64 0, .int .u64 0] 39)).alloc (.cells #[.slice (some ⟨a0.block, a0.off + 1, none⟩) (N - 1) (c0 - 1), .bool true] 193)) := (((Below.refl w.heap.size w).alloc (Nat.le_refl _) _).alloc (by simp) _).alloc (by simp; omega) _
    have hRes := ((BoxO.new w #[.slice none 0 0, .slice none 0 0, .int .i64 0, .int .u64 0, .int .u64 0, .int .u64 0, .int .u64 0] 39).alloc (.cells #[.slice none 0 0, .slice none 0 0, .int .i64 0, .int .u64 0, .int .u64 0, .int .u64 0, .int .u64 0] 39)).alloc (.cells #[.slice (some ⟨a0.block, a0.off + 1, none⟩) (N - 1) (c0 - 1), .bool true] 193)
    have hE := (BoxO.new (w.alloc (.cells #[.slice none 0 0, .slice none 0 0, .int .i64 0, .int .u64 0, .int .u64 0, .int .u64 0, .int .u64 0] 39)) #[.slice none 0 0, .slice none 0 0, .int .i64 0, .int .u64 0, .int .u64 0, .int .u64 0, .int .u64 0] 39).alloc (.cells #[.slice (some ⟨a0.block, a0.off + 1, none⟩) (N - 1) (c0 - 1), .bool true] 193)
    have hRd := BoxO.new ((w.alloc (.cells #[.slice none 0 0, .slice none 0 0, .int .i64 0, .int .u64 0, .int .u64 0, .int .u64 0, .int .u64 0] 39)).alloc (.cells #[.slice none 0 0, .slice none 0 0, .int .i64 0, .int .u64 0, .int .u64 0, .int .u64 0, .int .u64 0] 39)) #[.slice (some ⟨a0.block, a0.off + 1, none⟩) (N - 1) (c0 - 1), .bool true] 193
    have hr0 := (((HR1.out.alloc (Nat.le_refl _) (.cells #[.slice none 0 0, .slice none 0 0, .int .i64 0, .int .u64 0, .int .u64 0, .int .u64 0, .int .u64 0] 39)).alloc (by simp) (.cells #[.slice none 0 0, .slice none 0 0, .int .i64 0, .int .u64 0, .int .u64 0, .int .u64 0, .int .u64 0] 39)).alloc (by simp; omega) (.cells #[.slice (some ⟨a0.block, a0.off + 1, none⟩) (N - 1) (c0 - 1), .bool true] 193))
    simp only [World.size_alloc] at hE hRd
    generalize (((w.alloc (.cells #[.slice none 0 0, .slice none 0 0, .int .i64 0, .int .u64 0, .int .u64 0, .int .u64 0, .int .u64 0] 39)).alloc (.cells #[.slice none 0 0, .slice none 0 0, .int .i64 0, .int .u64 0, .int .u64 0, .int .u64 0, .int .u64 0] 39)).alloc (.cells #[.slice (some ⟨a0.block, a0.off + 1, none⟩) (N - 1) (c0 - 1), .bool true] 193)) = V at *
    clear HUN HR HR1
    generalize some (⟨a0.block, a0.off + 1, none⟩ : Addr) = A0 at *
    have hNk0 : N - 1 ≤ c0 - 1 := by omega
    have hNb0 : N - 1 ≤ 100000000 := by omega
    generalize N - 1 = N0 at *
    generalize c0 - 1 = k0 at *
    clear hN1 hNc hN
    refine (rtake2 w.heap.size (w.heap.size + 1 + 1) (by omega) A0 N0 k0 0 40 (Pn.put g ++ (Pn.put f ++ (Pn.put c ++ (Pn.put a ++ (Pn.put l ++ []))))) _ (by omega) hNk0 (by omega) (by decide) hRd hr0).mono ?_
    rintro e w1 ⟨A1, N1, k1, rfl, hNk1, hNl1, hr1, hRd1, hg1⟩
    have hNb1 : N1 ≤ 100000000 := by omega
    replace hE := hE.chg hg1 (by simp)
    replace hRes := hRes.chg hg1 (by simp; omega)
    replace hV := hV.trans (hg1.below hV.size (by intro q hq; simp at hq; omega))
    clear hRd hr0 hg1
    have hRd := hRd1
    clear hRd1
    go_wp2
    go_loopw [43] (fun x wr => x = .int .u64 0 ∧ wr = w1) (fun _ _ => 0)
    case atStart => exact ⟨rfl, rfl⟩
    case round =>
    obtain ⟨rfl, rfl⟩ := hrel
    go_wp2_with fail
    refine (rtake2 w.heap.size (w.heap.size + 1 + 1) (by omega) A1 N1 k1 g 1073741824 (Pn.put f ++ (Pn.put c ++ (Pn.put a ++ (Pn.put l ++ [])))) _ (by omega) hNk1 (by omega) (by decide) hRd hr1).mono ?_
    rintro e w2 ⟨A2, N2, k2, rfl, hNk2, hNl2, hr2, hRd2, hg2⟩
    have hNb2 : N2 ≤ 100000000 := by omega
    replace hE := hE.chg hg2 (by simp)
    replace hRes := hRes.chg hg2 (by simp; omega)
    replace hV := hV.trans (hg2.below hV.size (by intro q hq; simp at hq; omega))
    clear hRd hr1 hg2
    have hRd := hRd2
    clear hRd2
    have q2 := hE.cell 2
    have z2 := hE.free 2
    simp only [List.getElem?_cons_zero, List.getElem?_cons_succ] at q2
    go_wp2_with fail
    replace hE := hE.store 2 (.int .i64 (g : Int))
    replace hRes := hRes.chg (chg_set w2 ⟨w.heap.size + 1, 2, none⟩ (.int .i64 (g : Int))) (by simp)
    replace hRd := hRd.chg (chg_set w2 ⟨w.heap.size + 1, 2, none⟩ (.int .i64 (g : Int))) (by simp)
    replace hV := hV.setCell (p := ⟨w.heap.size + 1, 2, none⟩) (by simp) (.int .i64 (g : Int))
    replace hr2 := hr2.setCell (p := ⟨w.heap.size + 1, 2, none⟩) (by simp) (.int .i64 (g : Int))
    clear q2 z2
    refine (rtake2 w.heap.size (w.heap.size + 1 + 1) (by omega) A2 N2 k2 f 281474976710656 (Pn.put c ++ (Pn.put a ++ (Pn.put l ++ []))) _ (by omega) hNk2 (by omega) (by decide) hRd hr2).mono ?_
    rintro e w3 ⟨A3, N3, k3, rfl, hNk3, hNl3, hr3, hRd3, hg3⟩
    have hNb3 : N3 ≤ 100000000 := by omega
    replace hE := hE.chg hg3 (by simp)
    replace hRes := hRes.chg hg3 (by simp; omega)
    replace hV := hV.trans (hg3.below hV.size (by intro q hq; simp at hq; omega))
    clear hRd hr2 hg3
    have hRd := hRd3
    clear hRd3
    go_wp2_with fail
    refine (rtake2 w.heap.size (w.heap.size + 1 + 1) (by omega) A3 N3 k3 c 281474976710656 (Pn.put a ++ (Pn.put l ++ [])) _ (by omega) hNk3 (by omega) (by decide) hRd hr3).mono ?_
    rintro e w4 ⟨A4, N4, k4, rfl, hNk4, hNl4, hr4, hRd4, hg4⟩
    have hNb4 : N4 ≤ 100000000 := by omega
    replace hE := hE.chg hg4 (by simp)
    replace hRes := hRes.chg hg4 (by simp; omega)
    replace hV := hV.trans (hg4.below hV.size (by intro q hq; simp at hq; omega))
    clear hRd hr3 hg4
    have hRd := hRd4
    clear hRd4
    have q3 := hE.cell 3
    have z3 := hE.free 3
    simp only [List.getElem?_cons_zero, List.getElem?_cons_succ, List.set_cons_succ, List.set_cons_zero] at q3
    have q4 := hE.cell 4
    have z4 := hE.free 4
    simp only [List.getElem?_cons_zero, List.getElem?_cons_succ, List.set_cons_succ, List.set_cons_zero] at q4
    go_wp2_with fail
    replace hE := hE.store 3 (.int .u64 (f : Int))
    replace hRes := hRes.chg (chg_set w4 ⟨w.heap.size + 1, 3, none⟩ (.int .u64 (f : Int))) (by simp)
    replace hRd := hRd.chg (chg_set w4 ⟨w.heap.size + 1, 3, none⟩ (.int .u64 (f : Int))) (by simp)
    replace hV := hV.setCell (p := ⟨w.heap.size + 1, 3, none⟩) (by simp) (.int .u64 (f : Int))
    replace hr4 := hr4.setCell (p := ⟨w.heap.size + 1, 3, none⟩) (by simp) (.int .u64 (f : Int))
    clear q3 z3
    replace hE := hE.store 4 (.int .u64 (c : Int))
    replace hRes := hRes.chg (chg_set (w4.setCell ⟨w.heap.size + 1, 3, none⟩ (.int .u64 (f : Int))) ⟨w.heap.size + 1, 4, none⟩ (.int .u64 (c : Int))) (by simp)
    replace hRd := hRd.chg (chg_set (w4.setCell ⟨w.heap.size + 1, 3, none⟩ (.int .u64 (f : Int))) ⟨w.heap.size + 1, 4, none⟩ (.int .u64 (c : Int))) (by simp)
    replace hV := hV.setCell (p := ⟨w.heap.size + 1, 4, none⟩) (by simp) (.int .u64 (c : Int))
    replace hr4 := hr4.setCell (p := ⟨w.heap.size + 1, 4, none⟩) (by simp) (.int .u64 (c : Int))
    clear q4 z4
    refine (rtake2 w.heap.size (w.heap.size + 1 + 1) (by omega) A4 N4 k4 a 281474976710656 (Pn.put l ++ []) _ (by omega) hNk4 (by omega) (by decide) hRd hr4).mono ?_
    rintro e w5 ⟨A5, N5, k5, rfl, hNk5, hNl5, hr5, hRd5, hg5⟩
    have hNb5 : N5 ≤ 100000000 := by omega
    replace hE := hE.chg hg5 (by simp)
    replace hRes := hRes.chg hg5 (by simp; omega)
    replace hV := hV.trans (hg5.below hV.size (by intro q hq; simp at hq; omega))
    clear hRd hr4 hg5
    have hRd := hRd5
    clear hRd5
    go_wp2_with fail
    refine (rtake2 w.heap.size (w.heap.size + 1 + 1) (by omega) A5 N5 k5 l 281474976710656 [] _ (by omega) hNk5 (by omega) (by decide) hRd hr5).mono ?_
    rintro e w6 ⟨A6, N6, k6, rfl, hNk6, hNl6, hr6, hRd6, hg6⟩
    have hNb6 : N6 ≤ 100000000 := by omega
    replace hE := hE.chg hg6 (by simp)
    replace hRes := hRes.chg hg6 (by simp; omega)
    replace hV := hV.trans (hg6.below hV.size (by intro q hq; simp at hq; omega))
    clear hRd hr5 hg6
    have hRd := hRd6
    clear hRd6
    have q5 := hE.cell 5
    have z5 := hE.free 5
    simp only [List.getElem?_cons_zero, List.getElem?_cons_succ, List.set_cons_succ, List.set_cons_zero] at q5
    have q6 := hE.cell 6
    have z6 := hE.free 6
    simp only [List.getElem?_cons_zero, List.getElem?_cons_succ, List.set_cons_succ, List.set_cons_zero] at q6
    have o0 := hRd.cell 0
    have o1 := hRd.cell 1
    have q0 := hE.cell 0
    have q1 := hE.cell 1
    have q2 := hE.cell 2
    have q3 := hE.cell 3
    have q4 := hE.cell 4
    have hz6 : N6 = 0 := by have h := hr6.btlen; simpa using h.symm
    subst hz6
    simp only [List.getElem?_cons_zero, List.getElem?_cons_succ, List.set_cons_succ, List.set_cons_zero] at o0 o1 q0 q1 q2 q3 q4
    go_wp2_with fail
    refine (HMAY.out _).mono ?_
    rintro e w7 ⟨rfl, hbm⟩
    have hE7 := ((hE.store 5 (.int .u64 (a : Int))).store 6 (.int .u64 (l : Int))).below hbm
    have hRes7 := ((hRes.chg (chg_set w6 ⟨w.heap.size + 1, 5, none⟩ (.int .u64 (a : Int))) (by simp)).chg (chg_set _ ⟨w.heap.size + 1, 6, none⟩ (.int .u64 (l : Int))) (by simp)).below hbm
    have hV7 := later_ ((hV.setCell (p := ⟨w.heap.size + 1, 5, none⟩) (by simp) (.int .u64 (a : Int))).setCell (p := ⟨w.heap.size + 1, 6, none⟩) (by simp) (.int .u64 (l : Int))) hbm
    clear q5 z5 q6 z6 q0 q1 q2 q3 q4 o0 o1 hE hRes hV hbm hr6 hRd HMAY
    have q0 := hE7.cell 0
    have r0 := hRes7.cell 0
    have z0 := hRes7.free 0
    have q1 := hE7.cell 1
    have r1 := hRes7.cell 1
    have z1 := hRes7.free 1
    have q2 := hE7.cell 2
    have r2 := hRes7.cell 2
    have z2 := hRes7.free 2
    have q3 := hE7.cell 3
    have r3 := hRes7.cell 3
    have z3 := hRes7.free 3
    have q4 := hE7.cell 4
    have r4 := hRes7.cell 4
    have z4 := hRes7.free 4
    have q5 := hE7.cell 5
    have r5 := hRes7.cell 5
    have z5 := hRes7.free 5
    have q6 := hE7.cell 6
    have r6 := hRes7.cell 6
    have z6 := hRes7.free 6
    simp only [List.getElem?_cons_zero, List.getElem?_cons_succ, List.set_cons_succ, List.set_cons_zero] at q0 q1 q2 q3 q4 q5 q6 r0 r1 r2 r3 r4 r5 r6
    clear hE7 hRes7
    go_wp2
    refine bodyPost_ret (v := .tuple #[.agg #[.slice none 0 0, .slice none 0 0, .int .i64 (g : Int), .int .u64 (f : Int), .int .u64 (c : Int), .int .u64 (a : Int), .int .u64 (l : Int)], .int .i64 0]) (by simp [results, go_sem, *]) rfl ⟨rfl, ?_⟩
    exact ((((((hV7.setCell (by simp) _).setCell (by simp) _).setCell (by simp) _).setCell (by simp) _).setCell (by simp) _).setCell (by simp) _).setCell (by simp) _
end Go.Proofs.YthepokgkfaocmaaGreatDoor

/-
  The walk of edit.Views, for texts of changes that speak of no files.
-/
namespace Go.Proofs.YthepokgkfaocmaaGreatDoor
open Go.RowKit

/-- The five numbers of a View, or of a change, that speak of no files. -/
structure Bv where
  g : Nat
  f : Nat
  c : Nat
  a : Nat
  l : Nat
def Bv.zero : Bv := ⟨0, 0, 0, 0, 0⟩
def Bv.app (v e : Bv) : Bv := ⟨orElse e.g v.g, orElse e.f v.f, orElse e.c v.c, orElse e.a v.a, orElse e.l v.l⟩
def Bv.may (e : Bv) : Bool := decide (e.g ≤ 1073741824) && !bigs [e.f, e.c, e.a, e.l]
def Bv.ok (v : Bv) : Bool := decide (1 ≤ v.g) && v.may
def Bv.bytes (e : Bv) : List UInt8 := Ed.bytes ⟨[], [], e.g, e.f, e.c, e.a, e.l⟩
def Bv.vw (v : Bv) : Value := vwV v.g v.f v.c v.a v.l
def Bv.ed (v : Bv) : Value := edV v.g v.f v.c v.a v.l
def Bv.cells (v : Bv) : List Value := [.int .i64 (v.g : Int), .slice none 0 0, .int .u64 (v.f : Int), .int .u64 (v.c : Int), .int .u64 (v.a : Int), .int .u64 (v.l : Int)]
def Bv.run (es : List Bv) : Bv := es.foldl Bv.app Bv.zero
theorem Bv.run_snoc (es : List Bv) (e : Bv) : Bv.run (es ++ [e]) = (Bv.run es).app e := by simp [Bv.run]
theorem Bv.may_iff {e : Bv} : e.may = true ↔ e.g ≤ 1073741824 ∧ bigs [e.f, e.c, e.a, e.l] = false := by simp [Bv.may]
theorem Bv.ok_iff {e : Bv} : e.ok = true ↔ 1 ≤ e.g ∧ e.g ≤ 1073741824 ∧ bigs [e.f, e.c, e.a, e.l] = false := by simp [Bv.ok, Bv.may]
theorem bv_apply (v e : Bv) (w : World) (h : (v.app e).ok = true) : Calls Tryz.prog 44 #[v.vw, e.ed] w fun x w' => x = .returned (.tuple #[(v.app e).vw, .bool true]) ∧ Below w.heap.size w w' := by
  obtain ⟨h1, h2, h3⟩ := Bv.ok_iff.1 h
  exact apply_bare v.g v.f v.c v.a v.l e.g e.f e.c e.a e.l w h1 h2 h3
theorem bv_read (A : Option Addr) (N c0 : Nat) (e : Bv) (w : World) (h : e.may = true) (hN : N ≤ 100000000) (hNc : N ≤ c0) (hr : Row w.heap.size w A N 1 (bts e.bytes)) :
    Calls Tryz.prog 107 #[.slice A N c0] w fun x w' => x = .returned (.tuple #[e.ed, .int .i64 0]) ∧ Below w.heap.size w w' := by
  obtain ⟨h1, h2⟩ := Bv.may_iff.1 h
  exact eread_bare A N c0 e.g e.f e.c e.a e.l w h1 h2 hN hNc hr
theorem Bods.chg {base : Nat} {w w' : World} {kv bv : Value} {ks : List Nat} {bs : List (List UInt8)} {g : Nat} (h : Bods base w kv bv ks bs) (c : Chg [g] w w') (hg : g < base) : Bods base w' kv bv ks bs := by
  have hgr : w.grownBy w' (some g) := ⟨c.os, c.tape, c.output, c.size, fun k hk hne => c.block k hk (by simp; intro e; exact hne (by rw [e]))⟩
  obtain ⟨vs, hv, hx⟩ := h.row
  refine ⟨h.kinds.kept hgr (.inr (fun e => ?_)), ⟨vs, hv.kept hgr (.inr (fun e => ?_)), fun i hi => ?_⟩, h.sep⟩
  · have := (h.kinds.lt _ e).1
    omega
  · have := (hv.lt _ e).1
    omega
  · obtain ⟨A, k, c1, e, h1, h2, h3, h4⟩ := hx i hi
    exact ⟨A, k, c1, e, h1, h2, (h3.grow hgr (fun a ha e => by have := (h4 a ha).2.2.2; injection e with e; omega)).up c.size, fun a ha => ⟨Nat.lt_of_lt_of_le (h4 a ha).1 c.size, (h4 a ha).2⟩⟩
theorem bods_form {base : Nat} {w : World} {kv bv : Value} {ks : List Nat} {bs : List (List UInt8)} (h : Bods base w kv bv ks bs) (hl : ks.length = bs.length) (h0 : 0 < bs.length) :
    ∃ gk gb kc bc, kv = .slice (some ⟨gk, 0, none⟩) bs.length kc ∧ bv = .slice (some ⟨gb, 0, none⟩) bs.length bc := by
  obtain ⟨vs, hv, _⟩ := h.row
  rcases h.kinds.2 with ⟨_, h1⟩ | ⟨g, cap, cur, hv1, _⟩
  · omega
  · rcases hv.2 with ⟨_, h1⟩ | ⟨g2, cap2, cur2, hv2, _⟩
    · omega
    · exact ⟨g, g2, cap, cap2, by rw [hv1, hl], hv2⟩
theorem bods_at {base : Nat} {w : World} {gk gb n kc bc : Nat} {ks : List Nat} {bs : List (List UInt8)} (h : Bods base w (.slice (some ⟨gk, 0, none⟩) n kc) (.slice (some ⟨gb, 0, none⟩) n bc) ks bs) (hl : ks.length = bs.length) {k : Nat} (hk : k < bs.length) :
    ∃ x A M c, ks[k]? = some x ∧ w.cell? ⟨gk, k, none⟩ = some (.int .i64 (x : Int)) ∧ w.cell? ⟨gb, k, none⟩ = some (.slice A M c) ∧ M ≤ c ∧ Row w.heap.size w A M 1 (bts bs[k]) := by
  obtain ⟨vs, hv, hx⟩ := h.row
  obtain ⟨A, M, c, e, h1, h2, h3, _⟩ := hx k hk
  have hki := h.kinds
  have hxk : ks[k]? = some ks[k] := List.getElem?_eq_getElem (by omega)
  have c1 := hki.cells (g := gk) rfl k (.int .i64 ((ks[k] : Nat) : Int)) (by simp [i64v, hxk])
  have c2 := hv.cells (g := gb) rfl k _ e
  rw [base_add] at c1 c2
  exact ⟨ks[k], A, M, c, hxk, c1, c2, h1, h3⟩

theorem lt_of_cell {w : World} {b o : Nat} {v : Value} (h : w.cell? ⟨b, o, none⟩ = some v) : b < w.heap.size := by
  by_cases hlt : b < w.heap.size
  · exact hlt
  · simp [World.cell?, hlt] at h
theorem foldl_take (es : List Bv) (k : Nat) (h : k < es.length) : Bv.run (es.take (k + 1)) = (Bv.run (es.take k)).app es[k] := by
  rw [← List.take_append_getElem h, Bv.run_snoc]

set_option maxRecDepth 100000 in
set_option maxHeartbeats 2000000 in
theorem views_bare (A : Option Addr) (N c0 : Nat) (t : List UInt8) (es : List Bv) (stop er : Nat) (w : World) (hN : N ≤ 100000000) (hNc : N ≤ c0) (hc : c0 ≤ maxLen) (hr : Row w.heap.size w A N 1 (bts t))
    (hs : Fr.split t = (List.replicate es.length 6, es.map Bv.bytes, stop, er)) (her : er = 0 ∨ er = 4) (hes : 0 < es.length) (hel : es.length ≤ 1000000) (hmay : ∀ e ∈ es, e.may = true) (hok : ∀ k, k < es.length → (Bv.run (es.take (k + 1))).ok = true) :
    Calls Tryz.prog 83 #[.slice A N c0] w fun e w' => e = .returned (.tuple #[(Bv.run es).vw, .int .i64 (es.length : Int), .int .i64 (stop : Int), .int .i64 0]) ∧ Below w.heap.size w w' := by
  have hsp := fun W (hW : Row W.heap.size W A N 1 (bts t)) => split_any A N c0 t W (by omega) hNc hc hW
  rw [hs] at hsp
  have HSP := Lib.hid hsp
  have HMAY := Lib.hid hmay
  have HOK := Lib.hid hok
  have HR := Lib.hid hr
  clear hsp hmay hok hr hs
  go_enter Tryz.func83, Tryz.ntmps83
  go_wp2_with fail
  refine (HSP.out _ ((HR.out.alloc (Nat.le_refl _) _).up (by simp))).mono ?_
  rintro e w1 ⟨kv, bv, rfl, hbods, hb1⟩
  have hV0 := BoxO.new w #[.int .i64 0, .slice none 0 0, .int .u64 0, .int .u64 0, .int .u64 0, .int .u64 0] 31
  have hV := hV0.below hb1
  have hb := later_ ((Below.refl w.heap.size w).alloc (Nat.le_refl _) _) hb1
  simp only [World.size_alloc] at hbods
  have hll : (List.replicate es.length 6).length = (es.map Bv.bytes).length := by simp
  obtain ⟨gk, gb, kc, bc, rfl, rfl⟩ := bods_form hbods hll (by simpa using hes)
  have hmap : (es.map Bv.bytes).length = es.length := by simp
  rw [hmap] at hbods ⊢
  obtain ⟨n, hn⟩ : ∃ n, es.length = n := ⟨_, rfl⟩
  rw [hn] at hes hel hbods ⊢
  have HNL := Lib.hid hn
  clear hb1 hV0 hmap hll hn
  have hnz : ((n : Int) == 0) = false := by simp; omega
  rcases her with rfl | rfl
  all_goals
    go_wp2
    go_loopw [4, 35] (fun st i wr => ∃ k, k ≤ n ∧ st = .int .i64 (stop : Int) ∧ i = .int .i64 (k : Int) ∧ BoxO wr 31 w.heap.size (Bv.run (es.take k)).cells ∧ Chg [w.heap.size] w1 wr) (fun _ i _ => n - (intOf i).toNat)
    case atStart => exact ⟨0, Nat.zero_le _, rfl, rfl, hV, Chg.refl _ _⟩
    case round =>
      obtain ⟨k, hk, rfl, rfl, hBx, hchg⟩ := hrel
      have hbodr := hbods.chg hchg (by omega)
      by_cases hlt : k < n
      · have hn : es.length = n := HNL
        obtain ⟨x, A1, M1, c1, hxk, d1, d2, hM1, hrow⟩ := bods_at hbodr (by simp [hn]) (k := k) (by simp [hn]; exact hlt)
        have hx6 : x = 6 := by
          rw [List.getElem?_replicate, if_pos (by omega)] at hxk
          injection hxk with hxk
          exact hxk.symm
        subst hx6
        have hkl : k < es.length := by omega
        have hft := foldl_take es k hkl
        have hok1 := HOK.out k hkl
        rw [hft] at hok1
        have hmay1 := HMAY.out es[k] (List.getElem_mem hkl)
        have hrow1 : Row wr.heap.size wr A1 M1 1 (bts (es[k]).bytes) := by simpa using hrow
        generalize es[k] = ek at *
        generalize Bv.run (es.take k) = vk at *
        have HFT := Lib.hid hft
        have hM8 : M1 ≤ 100000000 := by
          have h1 := Bv.may_iff.1 hmay1
          have h2 := Ed.bytes_len ⟨[], [], ek.g, ek.f, ek.c, ek.a, ek.l⟩ (by
            have h3 := h1.2
            simp [bigs] at h3
            simp [Ed.may, four4]
            omega)
          have h4 := hrow1.btlen
          change (Bv.bytes ek).length ≤ 2000 at h2
          omega
        have hrd := bv_read A1 M1 c1 ek wr hmay1 hM8 hM1 hrow1
        have hap := fun W => bv_apply vk ek W hok1
        have HAP := Lib.hid hap
        clear hft hxk hkl hrow hap hok1 hmay1 hM8 hrow1
        go_wp2_with fail
        refine hrd.mono ?_
        rintro e w2 ⟨rfl, hb2⟩
        clear hrd
        have hB2 := hBx.below hb2
        have hk2 : w2.cell? ⟨gk, k, none⟩ = some (.int .i64 6) := (World.cell?_of_block (hb2.block gk (lt_of_cell d1))).trans d1
        have hlt2 := hB2.lt
        have hgk2 := lt_of_cell hk2
        have hc2 : Chg [w.heap.size] w1 w2 := hchg.trans (Chg.of_below hb2 []) (fun g hg => by cases hg)
        clear d1 d2 hb2 hBx hchg hbodr hM1
        have o0 := hB2.cell 0
        have o1 := hB2.cell 1
        have o2 := hB2.cell 2
        have o3 := hB2.cell 3
        have o4 := hB2.cell 4
        have o5 := hB2.cell 5
        simp only [Bv.cells, List.getElem?_cons_zero, List.getElem?_cons_succ] at o0 o1 o2 o3 o4 o5
        unfold Bv.ed edV
        have HAP2 := fun W => HAP.out W
        unfold Bv.ed edV Bv.vw vwV at HAP2
        have HA2 := Lib.hid HAP2
        clear HAP2 HAP
        go_wp2_with fail
        refine (HA2.out _).mono ?_
        rintro e w3 ⟨rfl, hb3⟩
        have hB3 := (hB2.alloc _).below hb3
        have hc3 : Chg [w.heap.size] w1 w3 := (hc2.alloc _).trans (Chg.of_below hb3 []) (fun g hg => by cases hg)
        clear o0 o1 o2 o3 o4 o5 hB2 hc2 hb3 hk2 HA2
        have o0 := hB3.cell 0
        have z0 := hB3.free 0
        have o1 := hB3.cell 1
        have z1 := hB3.free 1
        have o2 := hB3.cell 2
        have z2 := hB3.free 2
        have o3 := hB3.cell 3
        have z3 := hB3.free 3
        have o4 := hB3.cell 4
        have z4 := hB3.free 4
        have o5 := hB3.cell 5
        have z5 := hB3.free 5
        simp only [Bv.cells, List.getElem?_cons_zero, List.getElem?_cons_succ] at o0 o1 o2 o3 o4 o5
        have hlt3 := hB3.lt
        generalize vk.app ek = v2 at *
        go_wp2
        go_roundw
        case rel =>
          refine ⟨k + 1, by omega, rfl, by go_num, ?_, ?_⟩
          · have hft : Bv.run (es.take (k + 1)) = v2 := HFT
            rw [hft]
            exact ((((((hB3.store 0 _).store 1 _).store 2 _).store 3 _).store 4 _).store 5 _).alloc _
          · exact ((((((hc3.setCell _ (.inl (by simp))).setCell _ (.inl (by simp))).setCell _ (.inl (by simp))).setCell _ (.inl (by simp))).setCell _ (.inl (by simp))).setCell _ (.inl (by simp))).alloc _
        case measure => simp [intOf]; omega
      · obtain rfl : k = n := by omega
        have hall : Bv.run (es.take k) = Bv.run es := by
          have hn : es.length = k := HNL
          rw [List.take_of_length_le (by omega)]
        rw [hall] at hBx
        have hbr : Below w.heap.size w wr := hb.trans (hchg.below hb.size (by simp))
        generalize hv : Bv.run es = v at *
        have HV := Lib.hid hv
        clear hv
        have o0 := hBx.cell 0
        have z0 := hBx.free 0
        have o1 := hBx.cell 1
        have z1 := hBx.free 1
        have o2 := hBx.cell 2
        have z2 := hBx.free 2
        have o3 := hBx.cell 3
        have z3 := hBx.free 3
        have o4 := hBx.cell 4
        have z4 := hBx.free 4
        have o5 := hBx.cell 5
        have z5 := hBx.free 5
        simp only [Bv.cells, List.getElem?_cons_zero, List.getElem?_cons_succ] at o0 o1 o2 o3 o4 o5
        clear hall hBx hchg hbodr
        go_wp2
        unfold Bv.vw vwV
        refine bodyPost_ret (v := .tuple #[.agg #[.int .i64 (v.g : Int), .slice none 0 0, .int .u64 (v.f : Int), .int .u64 (v.c : Int), .int .u64 (v.a : Int), .int .u64 (v.l : Int)], .int .i64 (k : Int), .int .i64 (stop : Int), .int .i64 0]) (by simp [results, go_sem, *]) rfl ⟨by rw [show Bv.run es = v from HV, show es.length = k from HNL], ?_⟩
        exact (((((hbr.setCell (by simp) _).setCell (by simp) _).setCell (by simp) _).setCell (by simp) _).setCell (by simp) _).setCell (by simp) _
end Go.Proofs.YthepokgkfaocmaaGreatDoor
