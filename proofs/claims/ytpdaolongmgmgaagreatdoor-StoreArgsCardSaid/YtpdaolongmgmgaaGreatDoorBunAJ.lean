/- Texts StateH, StateI, StateJ, StateK, StateL, RefI, RefJ, RefN, SkipF, ItemK, HashA, AtomI, MemA in one. No conditions. -/
import Derived.Test.YtpdaolongmgmgaaGreatDoorBunAI
import Derived.Test.YtpdaolongmgmgaaGreatDoorBunAE
import Derived.Test.YtpdaolongmgmgaaGreatDoorRows
import Derived.BigQuiet
import Derived.Lib.Hide
import Derived.WalkKit
import Derived.WalkSpells
import Derived.WalkLawsBesides
import Derived.Deep.RegionWith
import Derived.Lib.MinMax
import Derived.Laws.StructEq
import Derived.Test.YtpdaolongmgmgaaGreatDoorBunAC
import Derived.Test.YtpdaolongmgmgaaGreatDoorBunAA
import Derived.Tactics
import Derived.Tactics2
import Derived.Laws.Pointers
import Derived.Laws.LoneSync
import Derived.Test.YtpdaolongmgmgaaGreatDoorBunAG

namespace Go.Proofs.YtpdaolongmgmgaaGreatDoor
open Go Go.RowKit Go.Lib
structure Its (B : Nat) (w : World) (A : Option Addr) (n c : Nat) (l : List It) : Prop where
 row : Row w.heap.size w A n 5 (itc l)
 nc : n ≤ c
 cm : c ≤ maxLen
 low : ∀ a, A = some a → B ≤ a.block
theorem iclip_any (A : Option Addr) (n c : Nat) (w : World) (hnc : n ≤ c) : Calls Tryz.prog 115 #[.slice A n c] w fun e w' => e = .returned (.slice A n n) ∧ w = w' := by
 have h1 : (n : Int) ≤ (c : Int) := by omega
 go_enter Tryz.func115, Tryz.ntmps115
 go_wp2
 go_ret
 exact ⟨rfl, rfl⟩
theorem Stt.take {l : List It} (h : Stt l) (k : Nat) : Stt (l.take k) :=
 ⟨h.rises.sublist (List.take_sublist k l), fun y hy => h.ok y (List.mem_of_mem_take hy), fun a ha b hb => h.bare a (List.mem_of_mem_take ha) b (List.mem_of_mem_take hb)⟩
theorem Stt.bare_take {l : List It} (h : Stt l) {k : Nat} (hk : k < l.length) : hidden (l.take k) l[k] = false := by
 unfold hidden
 rw [List.any_eq_false]
 intro t ht
 simp [h.bare t (List.mem_of_mem_take ht) l[k] (List.getElem_mem hk)]
set_option maxRecDepth 100000 in
set_option maxHeartbeats 4000000 in
theorem sok_any (A : Option Addr) (n c : Nat) (l : List It) (w : World) (hn : n ≤ 1000000) (hnc : n ≤ c) (hcm : c ≤ maxLen) (hS : Stt l) (hr : Row w.heap.size w A n 5 (itc l)) :
  Calls Tryz.prog 126 #[.slice A n c] w fun e w' => e = .returned (.bool true) ∧ Below w.heap.size w w' := by
 have hnn := hr.itlen
 have HS := Lib.hid hS
 unfold maxLen at hcm
 clear hS
 go_enter Tryz.func126, Tryz.ntmps126
 go_wp2
 go_loopw [7] (fun i wr => ∃ k : Nat, k ≤ n ∧ i = .int .i64 (k : Int) ∧ Below w.heap.size w wr) (fun i _ => n - (intOf i).toNat)
 case atStart => exact ⟨0, Nat.zero_le _, rfl, Below.refl _ _⟩
 case round =>
  obtain ⟨k, hk, rfl, hbl⟩ := hrel
  by_cases hlt : k < n
  ·obtain ⟨a, hl, rfl, hbk, c0, c1, c2, c3, c4⟩ := (hr.below hbl).it hlt
   have hko := HS.out.ok _ (List.getElem_mem hl)
   have hba := HS.out.bare_take hl
   have hok := fun W => iok_any l[k] W
   have hpre := fun (W : World) (hW : Below wr.heap.size wr W) => (((hr.below hbl).up hbl.size).below hW).up hW.size |>.pre (Nat.le_of_lt hlt)
   have hhd := fun (W : World) (hW : Below wr.heap.size wr W) => hidden_any (some a) k c (l.take k) l[k] W (by omega) (HS.out.take k).rises (HS.out.take k).ok (by rw [itc_take]; exact hpre W hW)
   rw [hba] at hhd
   simp only [hko] at hok
   have hless : ∀ (j : Nat) (hj : j < l.length), j < k → It.less l[j] l[k] = true := fun j hj hjk => List.pairwise_iff_getElem.1 HS.out.rises j k hj hl hjk
   generalize hxk : l[k] = x at *
   have hW0 := (Below.refl wr.heap.size wr).alloc (Nat.le_refl _) (.cells #[.int .i64 x.s, .int .i64 x.k, .int .u64 (x.t : Int), .int .u64 (x.v : Int), .int .i64 x.x] 41)
   have hbx : BoxO (wr.alloc (.cells #[.int .i64 x.s, .int .i64 x.k, .int .u64 (x.t : Int), .int .u64 (x.v : Int), .int .i64 x.x] 41)) 41 wr.heap.size x.cells := BoxO.new wr #[.int .i64 x.s, .int .i64 x.k, .int .u64 (x.t : Int), .int .u64 (x.v : Int), .int .i64 x.x] 41
   obtain ⟨W, hWe⟩ : ∃ W, W = wr.alloc (.cells #[.int .i64 x.s, .int .i64 x.k, .int .u64 (x.t : Int), .int .u64 (x.v : Int), .int .i64 x.x] 41) := ⟨_, rfl⟩
   obtain ⟨g, hg⟩ : ∃ g, g = wr.heap.size := ⟨_, rfl⟩
   rw [← hWe] at hW0 hbx
   rw [← hg] at hbx
   have hkx : ∀ w', Below W.heap.size W w' → w'.cell? ⟨g, 0, none⟩ = some (.int .i64 x.s) ∧ w'.cell? ⟨g, 1, none⟩ = some (.int .i64 x.k) ∧ w'.cell? ⟨g, 2, none⟩ = some (.int .u64 (x.t : Int)) ∧ w'.cell? ⟨g, 3, none⟩ = some (.int .u64 (x.v : Int)) ∧ w'.cell? ⟨g, 4, none⟩ = some (.int .i64 x.x) := fun w' hb => by
    have hB := hbx.below hb
    exact ⟨hB.cell 0, hB.cell 1, hB.cell 2, hB.cell 3, hB.cell 4⟩
   unfold It.val at hok hhd
   have hbz : ∀ w', Below W.heap.size W w' → Below wr.heap.size wr w' := fun w' h => later_ hW0 h
   have HOK := Lib.hid hok
   have HHD := Lib.hid hhd
   have HW := Lib.hid hWe
   have HG := Lib.hid hg
   have hkn : (k : Int) ≤ (n : Int) := by omega
   have hkc : k ≤ c := by omega
   have hkc2 : (k : Int) ≤ (c : Int) := by omega
   have hwk : IntKind.i64.wrap (k : Int) = (k : Int) := IntWalk.i64_in _ (by omega)
   rcases Nat.eq_zero_or_pos k with h0 | h0
   ·have hk0 : ((0 : Int) < (k : Int)) = False := eq_false (by omega)
    have hk1 : (0 < k) = False := eq_false (by omega)
    clear h0
    have KC := Lib.hid hkx
    clear hkx hok hhd hWe hg hko hba hpre hless hxk hbx hW0
    go_wp2_with fail
    rw [← HW.out, ← HG.out]
    refine wp_region_held_drew (S := fun w' => Below W.heap.size W w') rfl (below_drew (Below.refl _ _)) (fun hSw => ?_)
    refine wpAnyH_take (i := 0) (v := ?vka0) rfl (by kernel_rfl) (by kernel_rfl) (by kernel_rfl) (fun _ _ _ h => h) (Or.inl ⟨by rfl, ?hka0⟩) hSw ?kka0
    case hka0 => (intro w hSw; (obtain ⟨x0, x1, x2, x3, x4⟩ := KC.out w hSw); go_simp; try (with_reducible rfl))
    go_simp
    refine wpAnyH_ready (rs := [1]) (by kernel_rfl) (by simp) ?_
    refine AllReadyH.cons rfl (fun K hK => ?_) AllReadyH.nil
    go_simp
    with_reducible refine (HOK.out _).mono ?_
    rintro e w1 ⟨rfl, hb1⟩
    go_simp
    refine hK.out _ _ (hSw.trans (hb1.mono hSw.size)) (fun hSn => ?_)
    clear hK K hSw
    have hSw := hSn
    clear hSn
    go_simp
    refine wpAnyH_take (i := 2) (v := ?vka2) rfl (by kernel_rfl) (by kernel_rfl) (by kernel_rfl) (fun _ _ _ h => h) (Or.inl ⟨by rfl, ?hka2⟩) hSw ?kka2
    case hka2 => (intro w hSw; (obtain ⟨x0, x1, x2, x3, x4⟩ := KC.out w hSw); go_simp; try (with_reducible rfl))
    go_simp
    refine wpAnyH_take (i := 3) (v := ?vka3) rfl (by kernel_rfl) (by kernel_rfl) (by kernel_rfl) (fun _ _ _ h => h) (Or.inl ⟨by rfl, ?hka3⟩) hSw ?kka3
    case hka3 => (intro w hSw; (obtain ⟨x0, x1, x2, x3, x4⟩ := KC.out w hSw); go_simp; try (with_reducible rfl))
    go_simp
    refine wpAnyH_take (i := 4) (v := ?vka4) rfl (by kernel_rfl) (by kernel_rfl) (by kernel_rfl) (fun _ _ _ h => h) (Or.inl ⟨by rfl, ?hka4⟩) hSw ?kka4
    case hka4 => (intro w hSw; (obtain ⟨x0, x1, x2, x3, x4⟩ := KC.out w hSw); go_simp; try (with_reducible rfl))
    go_simp
    refine wpAnyH_take (i := 5) (v := ?vka5) rfl (by kernel_rfl) (by kernel_rfl) (by kernel_rfl) (fun _ _ _ h => h) (Or.inl ⟨by rfl, ?hka5⟩) hSw ?kka5
    case hka5 => (intro w hSw; (obtain ⟨x0, x1, x2, x3, x4⟩ := KC.out w hSw); go_simp; try (with_reducible rfl))
    go_simp
    refine wpAnyH_take (i := 6) (v := ?vka6) rfl (by kernel_rfl) (by kernel_rfl) (by kernel_rfl) (fun _ _ _ h => h) (Or.inl ⟨by rfl, ?hka6⟩) hSw ?kka6
    case hka6 => (intro w hSw; (obtain ⟨x0, x1, x2, x3, x4⟩ := KC.out w hSw); go_simp; try (with_reducible rfl))
    go_simp
    refine wpAnyH_take (i := 7) (v := undef) rfl (by kernel_rfl) (by kernel_rfl) (by kernel_rfl) (fun _ _ _ h => h) (Or.inr ⟨by rfl, rfl⟩) hSw ?_
    go_simp
    refine wpAnyH_take (i := 8) (v := undef) rfl (by kernel_rfl) (by kernel_rfl) (by kernel_rfl) (fun _ _ _ h => h) (Or.inr ⟨by rfl, rfl⟩) hSw ?_
    go_simp
    refine wpAnyH_take (i := 9) (v := undef) rfl (by kernel_rfl) (by kernel_rfl) (by kernel_rfl) (fun _ _ _ h => h) (Or.inr ⟨by rfl, rfl⟩) hSw ?_
    go_simp
    refine wpAnyH_take (i := 10) (v := undef) rfl (by kernel_rfl) (by kernel_rfl) (by kernel_rfl) (fun _ _ _ h => h) (Or.inr ⟨by rfl, rfl⟩) hSw ?_
    go_simp
    refine wpAnyH_take (i := 11) (v := undef) rfl (by kernel_rfl) (by kernel_rfl) (by kernel_rfl) (fun _ _ _ h => h) (Or.inr ⟨by rfl, rfl⟩) hSw ?_
    go_simp
    refine wpAnyH_take (i := 12) (v := undef) rfl (by kernel_rfl) (by kernel_rfl) (by kernel_rfl) (fun _ _ _ h => h) (Or.inr ⟨by rfl, rfl⟩) hSw ?_
    go_simp
    refine wpAnyH_take (i := 13) (v := undef) rfl (by kernel_rfl) (by kernel_rfl) (by kernel_rfl) (fun _ _ _ h => h) (Or.inr ⟨by rfl, rfl⟩) hSw ?_
    go_simp
    refine wpAnyH_take (i := 14) (v := undef) rfl (by kernel_rfl) (by kernel_rfl) (by kernel_rfl) (fun _ _ _ h => h) (Or.inr ⟨by rfl, rfl⟩) hSw ?_
    go_simp
    refine wpAnyH_take (i := 15) (v := ?vka15) rfl (by kernel_rfl) (by kernel_rfl) (by kernel_rfl) (fun _ _ _ h => h) (Or.inl ⟨by rfl, ?hka15⟩) hSw ?kka15
    case hka15 => (intro w hSw; (obtain ⟨x0, x1, x2, x3, x4⟩ := KC.out w hSw); go_simp; try (with_reducible rfl))
    go_simp
    refine wpAnyH_take (i := 16) (v := ?vka16) rfl (by kernel_rfl) (by kernel_rfl) (by kernel_rfl) (fun _ _ _ h => h) (Or.inl ⟨by rfl, ?hka16⟩) hSw ?kka16
    case hka16 => (intro w hSw; (obtain ⟨x0, x1, x2, x3, x4⟩ := KC.out w hSw); go_simp; try (with_reducible rfl))
    go_simp
    refine wpAnyH_take (i := 17) (v := ?vka17) rfl (by kernel_rfl) (by kernel_rfl) (by kernel_rfl) (fun _ _ _ h => h) (Or.inl ⟨by rfl, ?hka17⟩) hSw ?kka17
    case hka17 => (intro w hSw; (obtain ⟨x0, x1, x2, x3, x4⟩ := KC.out w hSw); go_simp; try (with_reducible rfl))
    go_simp
    refine wpAnyH_take (i := 18) (v := ?vka18) rfl (by kernel_rfl) (by kernel_rfl) (by kernel_rfl) (fun _ _ _ h => h) (Or.inl ⟨by rfl, ?hka18⟩) hSw ?kka18
    case hka18 => (intro w hSw; (obtain ⟨x0, x1, x2, x3, x4⟩ := KC.out w hSw); go_simp; try (with_reducible rfl))
    go_simp
    refine wpAnyH_take (i := 19) (v := ?vka19) rfl (by kernel_rfl) (by kernel_rfl) (by kernel_rfl) (fun _ _ _ h => h) (Or.inl ⟨by rfl, ?hka19⟩) hSw ?kka19
    case hka19 => (intro w hSw; (obtain ⟨x0, x1, x2, x3, x4⟩ := KC.out w hSw); go_simp; try (with_reducible rfl))
    go_simp
    refine wpAnyH_take (i := 20) (v := ?vka20) rfl (by kernel_rfl) (by kernel_rfl) (by kernel_rfl) (fun _ _ _ h => h) (Or.inl ⟨by rfl, ?hka20⟩) hSw ?kka20
    case hka20 => (intro w hSw; (obtain ⟨x0, x1, x2, x3, x4⟩ := KC.out w hSw); go_simp; try (with_reducible rfl))
    go_simp
    refine wpAnyH_take (i := 21) (v := ?vka21) rfl (by kernel_rfl) (by kernel_rfl) (by kernel_rfl) (fun _ _ _ h => h) (Or.inl ⟨by rfl, ?hka21⟩) hSw ?kka21
    case hka21 => (intro w hSw; (obtain ⟨x0, x1, x2, x3, x4⟩ := KC.out w hSw); go_simp; try (with_reducible rfl))
    go_simp
    refine wpAnyH_ready (rs := [22]) (by kernel_rfl) (by simp) ?_
    refine AllReadyH.cons rfl (fun K hK => ?_) AllReadyH.nil
    go_simp
    with_reducible refine (HHD.out _ (hbz _ hSw)).mono ?_
    rintro e w2 ⟨rfl, hb2⟩
    go_simp
    refine hK.out _ _ (hSw.trans (hb2.mono hSw.size)) (fun hSn => ?_)
    clear hK K hSw
    have hSw := hSn
    clear hSn
    go_simp
    refine wpAnyH_take (i := 23) (v := ?vka23) rfl (by kernel_rfl) (by kernel_rfl) (by kernel_rfl) (fun _ _ _ h => h) (Or.inl ⟨by rfl, ?hka23⟩) hSw ?kka23
    case hka23 => (intro w hSw; (obtain ⟨x0, x1, x2, x3, x4⟩ := KC.out w hSw); go_simp; try (with_reducible rfl))
    go_simp
    refine wpAnyH_done (by kernel_rfl) ?_ _
    have hby := later_ hbl (hbz _ hSw)
    clear hSw KC HOK HHD
    go_wp2
    go_roundw
    case rel => exact ⟨k + 1, by omega, by go_num, hby⟩
    case measure => simp [intOf]; omega
   ·obtain ⟨j, hj⟩ : ∃ j, k = j + 1 := ⟨k - 1, by omega⟩
    obtain ⟨a2, hl2, ea, _, hd⟩ := (hr.below hbl).it (k := j) (by omega)
    injection ea with ea
    subst ea
    have hls := fun W => iless_any l[j] x W
    rw [hless j hl2 (by omega)] at hls
    generalize l[j] = y at *
    unfold It.val at hls
    have hkc : ∀ w', Below W.heap.size W w' → (w'.cell? ⟨g, 0, none⟩ = some (.int .i64 x.s) ∧ w'.cell? ⟨g, 1, none⟩ = some (.int .i64 x.k) ∧ w'.cell? ⟨g, 2, none⟩ = some (.int .u64 (x.t : Int)) ∧ w'.cell? ⟨g, 3, none⟩ = some (.int .u64 (x.v : Int)) ∧ w'.cell? ⟨g, 4, none⟩ = some (.int .i64 x.x)) ∧ w'.cell? (a.add (j * 5)) = some (.int .i64 y.s) ∧ w'.cell? ⟨(a.add (j * 5)).block, (a.add (j * 5)).off + 1, none⟩ = some (.int .i64 y.k) ∧ w'.cell? ⟨(a.add (j * 5)).block, (a.add (j * 5)).off + 2, none⟩ = some (.int .u64 (y.t : Int)) ∧ w'.cell? ⟨(a.add (j * 5)).block, (a.add (j * 5)).off + 3, none⟩ = some (.int .u64 (y.v : Int)) ∧ w'.cell? ⟨(a.add (j * 5)).block, (a.add (j * 5)).off + 4, none⟩ = some (.int .i64 y.x) := fun w' hb => by
     have h2 := hd.below (B := wr.heap.size) (w' := w') (Nat.lt_of_lt_of_le hbk hbl.size) (hbz _ hb)
     exact ⟨hkx w' hb, h2.c0, h2.c1, h2.c2, h2.c3, h2.c4⟩
    have hk0 : (0 : Int) < (k : Int) := by omega
    have hk1 : 0 < k := h0
    have hkj : (k : Int) - 1 = (j : Int) := by omega
    have hwj : IntKind.i64.wrap (j : Int) = (j : Int) := IntWalk.i64_in _ (by omega)
    have hw1 : IntKind.i64.wrap ((k : Int) - 1) = (j : Int) := by rw [hkj]; exact hwj
    have hjn : (j : Int) < (n : Int) := by omega
    have KC := Lib.hid hkc
    have HLS := Lib.hid hls
    clear hkx hok hhd hWe hg hko hba hpre hless hxk hbx hW0 hkc hls hd hj h0
    go_wp2_with fail
    rw [← HW.out, ← HG.out]
    refine wp_region_held_drew (S := fun w' => Below W.heap.size W w') rfl (below_drew (Below.refl _ _)) (fun hSw => ?_)
    refine wpAnyH_take (i := 0) (v := ?vkb0) rfl (by kernel_rfl) (by kernel_rfl) (by kernel_rfl) (fun _ _ _ h => h) (Or.inl ⟨by rfl, ?hkb0⟩) hSw ?kkb0
    case hkb0 => (intro w hSw; (obtain ⟨⟨x0, x1, x2, x3, x4⟩, y0, y1, y2, y3, y4⟩ := KC.out w hSw); go_simp; try (with_reducible rfl))
    go_simp
    refine wpAnyH_ready (rs := [1]) (by kernel_rfl) (by simp) ?_
    refine AllReadyH.cons rfl (fun K hK => ?_) AllReadyH.nil
    go_simp
    with_reducible refine (HOK.out _).mono ?_
    rintro e w1 ⟨rfl, hb1⟩
    go_simp
    refine hK.out _ _ (hSw.trans (hb1.mono hSw.size)) (fun hSn => ?_)
    clear hK K hSw
    have hSw := hSn
    clear hSn
    go_simp
    refine wpAnyH_take (i := 2) (v := ?vkb2) rfl (by kernel_rfl) (by kernel_rfl) (by kernel_rfl) (fun _ _ _ h => h) (Or.inl ⟨by rfl, ?hkb2⟩) hSw ?kkb2
    case hkb2 => (intro w hSw; (obtain ⟨⟨x0, x1, x2, x3, x4⟩, y0, y1, y2, y3, y4⟩ := KC.out w hSw); go_simp; try (with_reducible rfl))
    go_simp
    refine wpAnyH_take (i := 3) (v := ?vkb3) rfl (by kernel_rfl) (by kernel_rfl) (by kernel_rfl) (fun _ _ _ h => h) (Or.inl ⟨by rfl, ?hkb3⟩) hSw ?kkb3
    case hkb3 => (intro w hSw; (obtain ⟨⟨x0, x1, x2, x3, x4⟩, y0, y1, y2, y3, y4⟩ := KC.out w hSw); go_simp; try (with_reducible rfl))
    go_simp
    refine wpAnyH_take (i := 4) (v := ?vkb4) rfl (by kernel_rfl) (by kernel_rfl) (by kernel_rfl) (fun _ _ _ h => h) (Or.inl ⟨by rfl, ?hkb4⟩) hSw ?kkb4
    case hkb4 => (intro w hSw; (obtain ⟨⟨x0, x1, x2, x3, x4⟩, y0, y1, y2, y3, y4⟩ := KC.out w hSw); go_simp; try (with_reducible rfl))
    go_simp
    refine wpAnyH_take (i := 5) (v := ?vkb5) rfl (by kernel_rfl) (by kernel_rfl) (by kernel_rfl) (fun _ _ _ h => h) (Or.inl ⟨by rfl, ?hkb5⟩) hSw ?kkb5
    case hkb5 => (intro w hSw; (obtain ⟨⟨x0, x1, x2, x3, x4⟩, y0, y1, y2, y3, y4⟩ := KC.out w hSw); go_simp; try (with_reducible rfl))
    go_simp
    refine wpAnyH_take (i := 6) (v := ?vkb6) rfl (by kernel_rfl) (by kernel_rfl) (by kernel_rfl) (fun _ _ _ h => h) (Or.inl ⟨by rfl, ?hkb6⟩) hSw ?kkb6
    case hkb6 => (intro w hSw; (obtain ⟨⟨x0, x1, x2, x3, x4⟩, y0, y1, y2, y3, y4⟩ := KC.out w hSw); go_simp; try (with_reducible rfl))
    go_simp
    refine wpAnyH_take (i := 7) (v := ?vkb7) rfl (by kernel_rfl) (by kernel_rfl) (by kernel_rfl) (fun _ _ _ h => h) (Or.inl ⟨by rfl, ?hkb7⟩) hSw ?kkb7
    case hkb7 => (intro w hSw; (obtain ⟨⟨x0, x1, x2, x3, x4⟩, y0, y1, y2, y3, y4⟩ := KC.out w hSw); go_simp; try (with_reducible rfl))
    go_simp
    refine wpAnyH_take (i := 8) (v := ?vkb8) rfl (by kernel_rfl) (by kernel_rfl) (by kernel_rfl) (fun _ _ _ h => h) (Or.inl ⟨by rfl, ?hkb8⟩) hSw ?kkb8
    case hkb8 => (intro w hSw; (obtain ⟨⟨x0, x1, x2, x3, x4⟩, y0, y1, y2, y3, y4⟩ := KC.out w hSw); go_simp; try (with_reducible rfl))
    go_simp
    refine wpAnyH_take (i := 9) (v := ?vkb9) rfl (by kernel_rfl) (by kernel_rfl) (by kernel_rfl) (fun _ _ _ h => h) (Or.inl ⟨by rfl, ?hkb9⟩) hSw ?kkb9
    case hkb9 => (intro w hSw; (obtain ⟨⟨x0, x1, x2, x3, x4⟩, y0, y1, y2, y3, y4⟩ := KC.out w hSw); go_simp; try (with_reducible rfl))
    go_simp
    refine wpAnyH_take (i := 10) (v := ?vkb10) rfl (by kernel_rfl) (by kernel_rfl) (by kernel_rfl) (fun _ _ _ h => h) (Or.inl ⟨by rfl, ?hkb10⟩) hSw ?kkb10
    case hkb10 => (intro w hSw; (obtain ⟨⟨x0, x1, x2, x3, x4⟩, y0, y1, y2, y3, y4⟩ := KC.out w hSw); go_simp; try (with_reducible rfl))
    go_simp
    refine wpAnyH_take (i := 11) (v := ?vkb11) rfl (by kernel_rfl) (by kernel_rfl) (by kernel_rfl) (fun _ _ _ h => h) (Or.inl ⟨by rfl, ?hkb11⟩) hSw ?kkb11
    case hkb11 => (intro w hSw; (obtain ⟨⟨x0, x1, x2, x3, x4⟩, y0, y1, y2, y3, y4⟩ := KC.out w hSw); go_simp; try (with_reducible rfl))
    go_simp
    refine wpAnyH_take (i := 12) (v := ?vkb12) rfl (by kernel_rfl) (by kernel_rfl) (by kernel_rfl) (fun _ _ _ h => h) (Or.inl ⟨by rfl, ?hkb12⟩) hSw ?kkb12
    case hkb12 => (intro w hSw; (obtain ⟨⟨x0, x1, x2, x3, x4⟩, y0, y1, y2, y3, y4⟩ := KC.out w hSw); go_simp; try (with_reducible rfl))
    go_simp
    refine wpAnyH_ready (rs := [13]) (by kernel_rfl) (by simp) ?_
    refine AllReadyH.cons rfl (fun K hK => ?_) AllReadyH.nil
    go_simp
    with_reducible refine (HLS.out _).mono ?_
    rintro e w3 ⟨rfl, hb3⟩
    go_simp
    refine hK.out _ _ (hSw.trans (hb3.mono hSw.size)) (fun hSn => ?_)
    clear hK K hSw
    have hSw := hSn
    clear hSn
    go_simp
    refine wpAnyH_take (i := 14) (v := ?vkb14) rfl (by kernel_rfl) (by kernel_rfl) (by kernel_rfl) (fun _ _ _ h => h) (Or.inl ⟨by rfl, ?hkb14⟩) hSw ?kkb14
    case hkb14 => (intro w hSw; (obtain ⟨⟨x0, x1, x2, x3, x4⟩, y0, y1, y2, y3, y4⟩ := KC.out w hSw); go_simp; try (with_reducible rfl))
    go_simp
    refine wpAnyH_take (i := 15) (v := ?vkb15) rfl (by kernel_rfl) (by kernel_rfl) (by kernel_rfl) (fun _ _ _ h => h) (Or.inl ⟨by rfl, ?hkb15⟩) hSw ?kkb15
    case hkb15 => (intro w hSw; (obtain ⟨⟨x0, x1, x2, x3, x4⟩, y0, y1, y2, y3, y4⟩ := KC.out w hSw); go_simp; try (with_reducible rfl))
    go_simp
    refine wpAnyH_take (i := 16) (v := ?vkb16) rfl (by kernel_rfl) (by kernel_rfl) (by kernel_rfl) (fun _ _ _ h => h) (Or.inl ⟨by rfl, ?hkb16⟩) hSw ?kkb16
    case hkb16 => (intro w hSw; (obtain ⟨⟨x0, x1, x2, x3, x4⟩, y0, y1, y2, y3, y4⟩ := KC.out w hSw); go_simp; try (with_reducible rfl))
    go_simp
    refine wpAnyH_take (i := 17) (v := ?vkb17) rfl (by kernel_rfl) (by kernel_rfl) (by kernel_rfl) (fun _ _ _ h => h) (Or.inl ⟨by rfl, ?hkb17⟩) hSw ?kkb17
    case hkb17 => (intro w hSw; (obtain ⟨⟨x0, x1, x2, x3, x4⟩, y0, y1, y2, y3, y4⟩ := KC.out w hSw); go_simp; try (with_reducible rfl))
    go_simp
    refine wpAnyH_take (i := 18) (v := ?vkb18) rfl (by kernel_rfl) (by kernel_rfl) (by kernel_rfl) (fun _ _ _ h => h) (Or.inl ⟨by rfl, ?hkb18⟩) hSw ?kkb18
    case hkb18 => (intro w hSw; (obtain ⟨⟨x0, x1, x2, x3, x4⟩, y0, y1, y2, y3, y4⟩ := KC.out w hSw); go_simp; try (with_reducible rfl))
    go_simp
    refine wpAnyH_take (i := 19) (v := ?vkb19) rfl (by kernel_rfl) (by kernel_rfl) (by kernel_rfl) (fun _ _ _ h => h) (Or.inl ⟨by rfl, ?hkb19⟩) hSw ?kkb19
    case hkb19 => (intro w hSw; (obtain ⟨⟨x0, x1, x2, x3, x4⟩, y0, y1, y2, y3, y4⟩ := KC.out w hSw); go_simp; try (with_reducible rfl))
    go_simp
    refine wpAnyH_take (i := 20) (v := ?vkb20) rfl (by kernel_rfl) (by kernel_rfl) (by kernel_rfl) (fun _ _ _ h => h) (Or.inl ⟨by rfl, ?hkb20⟩) hSw ?kkb20
    case hkb20 => (intro w hSw; (obtain ⟨⟨x0, x1, x2, x3, x4⟩, y0, y1, y2, y3, y4⟩ := KC.out w hSw); go_simp; try (with_reducible rfl))
    go_simp
    refine wpAnyH_take (i := 21) (v := ?vkb21) rfl (by kernel_rfl) (by kernel_rfl) (by kernel_rfl) (fun _ _ _ h => h) (Or.inl ⟨by rfl, ?hkb21⟩) hSw ?kkb21
    case hkb21 => (intro w hSw; (obtain ⟨⟨x0, x1, x2, x3, x4⟩, y0, y1, y2, y3, y4⟩ := KC.out w hSw); go_simp; try (with_reducible rfl))
    go_simp
    refine wpAnyH_ready (rs := [22]) (by kernel_rfl) (by simp) ?_
    refine AllReadyH.cons rfl (fun K hK => ?_) AllReadyH.nil
    go_simp
    with_reducible refine (HHD.out _ (hbz _ hSw)).mono ?_
    rintro e w2 ⟨rfl, hb2⟩
    go_simp
    refine hK.out _ _ (hSw.trans (hb2.mono hSw.size)) (fun hSn => ?_)
    clear hK K hSw
    have hSw := hSn
    clear hSn
    go_simp
    refine wpAnyH_take (i := 23) (v := ?vkb23) rfl (by kernel_rfl) (by kernel_rfl) (by kernel_rfl) (fun _ _ _ h => h) (Or.inl ⟨by rfl, ?hkb23⟩) hSw ?kkb23
    case hkb23 => (intro w hSw; (obtain ⟨⟨x0, x1, x2, x3, x4⟩, y0, y1, y2, y3, y4⟩ := KC.out w hSw); go_simp; try (with_reducible rfl))
    go_simp
    refine wpAnyH_done (by kernel_rfl) ?_ _
    have hby := later_ hbl (hbz _ hSw)
    clear hSw KC HOK HHD HLS
    go_wp2
    go_roundw
    case rel => exact ⟨k + 1, by omega, by go_num, hby⟩
    case measure => simp [intOf]; omega
  ·go_wp2
   go_ret
   exact ⟨rfl, hbl⟩
end Go.Proofs.YtpdaolongmgmgaaGreatDoor
namespace Go.Proofs.YtpdaolongmgmgaaGreatDoor
open Go Go.RowKit Go.Lib
theorem joins_take {a b : List It} {k : Nat} (h : k < b.length) : joins a (b.take (k + 1)) = add (joins a (b.take k)) b[k] := by
 unfold joins
 rw [List.take_succ_eq_append_getElem h, List.foldl_append]
 rfl
def JoinPost (w : World) (R : List It) (e : Ending) (w' : World) : Prop := ∃ A' k, e = .returned (.slice A' k k) ∧ k = R.length ∧ Its w.heap.size w' A' k k R ∧ Below w.heap.size w w'
set_option maxRecDepth 100000 in
set_option maxHeartbeats 2000000 in
theorem join_any (A : Option Addr) (n c : Nat) (a : List It) (B : Option Addr) (m d : Nat) (b : List It) (w : World) (hsz : n + m ≤ 900000) (hnc : n ≤ c) (hcm : c ≤ maxLen) (hS : Stt a) (ra : Row w.heap.size w A n 5 (itc a)) (rb : Row w.heap.size w B m 5 (itc b)) :
  Calls Tryz.prog 56 #[.slice A n c, .slice B m d] w (JoinPost w (joins a b)) := by
 have hna := ra.itlen
 have hmb := rb.itlen
 have how := own_any A n c a w (by omega) ra
 have hok := fun W (hb : Below w.heap.size w W) => sok_any A n c a W (by omega) hnc hcm hS ((ra.below hb).up hb.size)
 obtain ⟨R, hR⟩ : ∃ R, R = joins a b := ⟨_, rfl⟩
 rw [← hR]
 have HR := Lib.hid hR
 have HOW := Lib.hid how
 have HOK := Lib.hid hok
 have HS := Lib.hid hS
 clear how hok hR hS ra
 go_enter Tryz.func56, Tryz.ntmps56
 go_wp2_with fail
 refine HOW.out.mono ?_
 rintro e w1 ⟨A1, c1, rfl, ho1, hb1⟩
 have HO1 := Lib.hid ho1
 clear HOW ho1
 go_wp2_with fail
 refine (HOK.out _ hb1).mono ?_
 rintro e w2 ⟨rfl, hb2⟩
 have hb3 := later_ hb1 hb2
 have ho2 := own_below HO1.out hb2
 have HO2 := Lib.hid ho2
 clear ho2 HO1 hb1 hb2 HOK
 go_wp2_with fail
 go_loopw [5, 17] (fun v i wr => ∃ (k q : Nat) (A2 : Option Addr) (c2 : Nat), k ≤ m ∧ v = .slice A2 q c2 ∧ i = .int .i64 (k : Int) ∧ Hid (q = (joins a (b.take k)).length ∧ wr.ownsRow w.heap.size 41 5 (.slice A2 q c2) q (itc (joins a (b.take k)))) ∧ Below w.heap.size w wr) (fun _ i _ => m - (intOf i).toNat)
 case atStart => exact ⟨0, n, A1, c1, Nat.zero_le _, rfl, rfl, Lib.hid ⟨hna.symm, HO2.out⟩, hb3⟩
 case round =>
  obtain ⟨k, q, A2, c2, hk, rfl, rfl, HQ, hbl⟩ := hrel
  clear HO2 hb3
  by_cases hlt : k < m
  ·obtain ⟨p, hl, rfl, hbk, c0, c1, c2', c3, c4⟩ := (rb.below hbl).it hlt
   have hjt := joins_take (a := a) hl
   have hst := (joins_stt (b.take k) HS.out).1
   have hjl := joins_len (b.take k) a
   rw [List.length_take] at hjl
   have hq1 := HQ.out.1
   have hoV := own_below HQ.out.2 ((Below.refl wr.heap.size wr).alloc (Nat.le_refl _) (.cells #[.int .i64 (b[k]).s, .int .i64 (b[k]).k, .int .u64 ((b[k]).t : Int), .int .u64 ((b[k]).v : Int), .int .i64 (b[k]).x] 41))
   have hsa := sadd_any w.heap.size A2 q c2 _ b[k] _ (by omega) (Nat.le_trans hbl.size (by simp)) hst hoV
   rw [← hjt] at hsa
   generalize b[k] = x at *
   unfold It.val at hsa
   have hbV := hbl.alloc hbl.size (.cells #[.int .i64 x.s, .int .i64 x.k, .int .u64 (x.t : Int), .int .u64 (x.v : Int), .int .i64 x.x] 41)
   have HSA := Lib.hid (And.intro hsa hbV)
   clear hsa hbV hoV hst hjt hjl hq1
   go_wp2_with fail
   refine HSA.out.1.mono ?_
   rintro e w5 ⟨k5, A5, c5, rfl, hk5, ho5, hb5⟩
   have H5 := Lib.hid (And.intro (And.intro hk5 ho5) (HSA.out.2.trans hb5))
   clear hk5 ho5 hb5 HSA HQ
   go_wp2
   go_roundw
   case rel => exact ⟨k + 1, k5, A5, c5, by omega, rfl, by go_num, Lib.hid H5.out.1, H5.out.2⟩
   case measure => simp [intOf]; omega
  ·have hall : joins a (b.take k) = R := by rw [List.take_of_length_le (by omega), HR.out]
   have hq := HQ.out
   rw [hall] at hq
   obtain ⟨A3, c3, hv, hqc, hqm, hlow⟩ := own_form hq.2
   injection hv with e1 e2 e3
   subst e1 e3
   have hits : Its w.heap.size wr A2 q q R := ⟨Row.own hq.2, Nat.le_refl _, Nat.le_trans hqc hqm, fun p hp => (hlow p hp).1⟩
   have hcl := iclip_any A2 q c2 wr hqc
   have HF := Lib.hid (And.intro hq.1 hits)
   have HCL := Lib.hid hcl
   clear hcl hits hq hall hlow hqc hqm
   go_wp2_with fail
   refine HCL.out.mono ?_
   rintro e w6 ⟨rfl, rfl⟩
   go_wp2
   go_ret
   exact ⟨A2, q, rfl, HF.out.1, HF.out.2, hbl⟩
end Go.Proofs.YtpdaolongmgmgaaGreatDoor
namespace Go.Proofs.YtpdaolongmgmgaaGreatDoor
open Go Go.RowKit Go.Lib
theorem irow_box {w : World} {vb : Nat} {x : It} (hv : BoxO w 41 vb x.cells) : Row w.heap.size w (some ⟨vb, 0, none⟩) 1 5 x.cells := ⟨rfl, fun j hj => ⟨_, rfl, hv.lt, by
 rw [show ((⟨vb, 0, none⟩ : Addr).add j) = ⟨vb, j, none⟩ by rw [Addr.add_lit, Nat.zero_add], hv.cell]
 exact List.getElem?_eq_getElem hj⟩⟩
end Go.Proofs.YtpdaolongmgmgaaGreatDoor
namespace Go.Proofs.YtpdaolongmgmgaaGreatDoor
open Go Go.RowKit Go.Lib
end Go.Proofs.YtpdaolongmgmgaaGreatDoor
namespace Go.Proofs.YtpdaolongmgmgaaGreatDoor
open Go Go.RowKit Go.Lib
def isAt (s : Int) (t : Nat) (a : It) : Bool := a.s == s && (a.k == 2 && a.t == t)
theorem find_take {P : It → Bool} {l : List It} {k : Nat} (hl : k < l.length) (h0 : (l.take k).any P = false) (h1 : P l[k] = true) : l.find? P = some l[k] := by
 have e : l = l.take k ++ l[k] :: l.drop (k + 1) := by rw [List.getElem_cons_drop, List.take_append_drop]
 have h2 : (l.take k).find? P = none := List.find?_eq_none.2 fun y hy => by
  have := (List.any_eq_false.1 h0) y hy
  simpa using this
 conv => lhs; rw [e]
 rw [List.find?_append, h2, List.find?_cons_of_pos h1]
 rfl
set_option maxRecDepth 100000 in
set_option maxHeartbeats 2000000 in
theorem sget_any (A : Option Addr) (n c : Nat) (l : List It) (s : Int) (t : Nat) (w : World) (hn : n ≤ 1000000) (hr : Row w.heap.size w A n 5 (itc l)) :
  Calls Tryz.prog 138 #[.slice A n c, .int .i64 s, .int .u64 (t : Int)] w fun e w' => e = .returned (.tuple #[((l.find? (isAt s t)).getD It.none_).val, .bool (l.find? (isAt s t)).isSome]) ∧ Below w.heap.size w w' := by
 have hnn := hr.itlen
 obtain ⟨R, hR⟩ : ∃ R, R = l.find? (isAt s t) := ⟨_, rfl⟩
 rw [← hR]
 have HR := Lib.hid hR
 clear hR
 have hbV := (Below.refl w.heap.size w).alloc (Nat.le_refl _) (.cells #[.int .i64 0, .int .i64 0, .int .u64 0, .int .u64 0, .int .i64 0] 41)
 have hbx := BoxO.new w #[.int .i64 0, .int .i64 0, .int .u64 0, .int .u64 0, .int .i64 0] 41
 have hrV := (hr.below hbV).up hbV.size
 obtain ⟨V, hV⟩ : ∃ V, V = w.alloc (.cells #[.int .i64 0, .int .i64 0, .int .u64 0, .int .u64 0, .int .i64 0] 41) := ⟨_, rfl⟩
 obtain ⟨g, hg⟩ : ∃ g, g = w.heap.size := ⟨_, rfl⟩
 have hgw : w.heap.size ≤ g := by omega
 rw [← hV] at hbV hbx hrV
 rw [← hg] at hbx
 have HV := Lib.hid hV
 have HG := Lib.hid hg
 clear hV hg hr
 go_enter Tryz.func138, Tryz.ntmps138
 go_wp2_with fail
 rw [← HV.out, ← HG.out]
 go_loopw [12] (fun i wr => ∃ k : Nat, k ≤ n ∧ i = .int .i64 (k : Int) ∧ Hid ((l.take k).any (isAt s t) = false) ∧ Below V.heap.size V wr) (fun i _ => n - (intOf i).toNat)
 case atStart => exact ⟨0, Nat.zero_le _, rfl, Lib.hid rfl, Below.refl _ _⟩
 case round =>
  obtain ⟨k, hk, rfl, HA, hbl⟩ := hrel
  have hbw := hbx.below hbl
  have hgv := hbx.lt
  by_cases hlt : k < n
  ·obtain ⟨a, hl, rfl, hbk, c0, c1, c2, c3, c4⟩ := (hrV.below hbl).it hlt
   have hft := fun h => find_take (P := isAt s t) hl HA.out h
   have hat := any_take (P := isAt s t) hl
   generalize l[k] = x at *
   have hbo := (Below.refl wr.heap.size wr).alloc (Nat.le_refl _) (.cells #[.int .i64 x.s, .int .i64 x.k, .int .u64 (x.t : Int), .int .u64 (x.v : Int), .int .i64 x.x] 41)
   have hbz := later_ hbl hbo
   have hbz2 := later_ hbV hbz
   have hbw2 := hbw.below hbo
   obtain ⟨b, hb⟩ : ∃ b, b = isAt s t x := ⟨_, rfl⟩
   rw [← hb] at hft hat
   have HFT := Lib.hid hft
   have HAT := Lib.hid hat
   unfold isAt at hb
   have go : ∀ {b : Bool}, b = false → Hid (b = false) := fun h => Lib.hid h
   by_cases h1 : x.s = s
   ·by_cases h2 : x.k = 2
    ·by_cases h3 : x.t = t
     ·have hbt : b = true := by rw [hb]; simp [h1, h2, h3]
      subst hbt
      have hfr := HFT.out rfl
      have HF := Lib.hid (HR.out.trans hfr)
      have e1 : (x.s == s) = true := by simp [h1]
      have e2 : (x.k == 2) = true := by simp [h2]
      have e3 : ((x.t : Int) == (t : Int)) = true := by simp [h3]
      have z0 := hbw2.free 0
      have z1 := hbw2.free 1
      have z2 := hbw2.free 2
      have z3 := hbw2.free 3
      have z4 := hbw2.free 4
      have s0 := hbw2.cell 0
      have s1 := hbw2.cell 1
      have s2 := hbw2.cell 2
      have s3 := hbw2.cell 3
      have s4 := hbw2.cell 4
      simp only [List.getElem?_cons_zero, List.getElem?_cons_succ] at s0 s1 s2 s3 s4
      clear hft hat hb hfr hbw hbw2 h1 h2 h3 HFT HAT
      go_wp2
      refine bodyPost_ret (v := .tuple #[.agg #[.int .i64 x.s, .int .i64 x.k, .int .u64 (x.t : Int), .int .u64 (x.v : Int), .int .i64 x.x], .bool true]) (by simp [results, go_sem, *]) rfl ⟨by rw [HF.out]; rfl, ?_⟩
      exact ((((hbz2.setCell (p := ⟨g, 0, none⟩) hgw _).setCell (p := ⟨g, 1, none⟩) hgw _).setCell (p := ⟨g, 2, none⟩) hgw _).setCell (p := ⟨g, 3, none⟩) hgw _).setCell (p := ⟨g, 4, none⟩) hgw _
     ·have hbt : b = false := by rw [hb]; simp [h3]
      subst hbt
      have e1 : (x.s == s) = true := by simp [h1]
      have e2 : (x.k == 2) = true := by simp [h2]
      have e3 : ((x.t : Int) == (t : Int)) = false := by rw [beq_eq_false_iff_ne]; omega
      clear hft hat hb hbw hbw2 h1 h2 h3
      go_wp2
      go_roundw
      case rel => exact ⟨k + 1, by omega, by go_num, Lib.hid (by rw [HAT.out, HA.out]; rfl), hbz⟩
      case measure => simp [intOf]; omega
    ·have hbt : b = false := by rw [hb]; simp [h2]
     subst hbt
     have e1 : (x.s == s) = true := by simp [h1]
     have e2 : (x.k == 2) = false := by simpa using h2
     clear hft hat hb hbw hbw2 h1 h2
     go_wp2
     go_roundw
     case rel => exact ⟨k + 1, by omega, by go_num, Lib.hid (by rw [HAT.out, HA.out]; rfl), hbz⟩
     case measure => simp [intOf]; omega
   ·have hbt : b = false := by rw [hb]; simp [h1]
    subst hbt
    have e1 : (x.s == s) = false := by simpa using h1
    clear hft hat hb hbw hbw2 h1
    go_wp2
    go_roundw
    case rel => exact ⟨k + 1, by omega, by go_num, Lib.hid (by rw [HAT.out, HA.out]; rfl), hbz⟩
    case measure => simp [intOf]; omega
  ·have hnone : R = none := by
    rw [HR.out]
    refine List.find?_eq_none.2 fun y hy => ?_
    have h := HA.out
    rw [List.take_of_length_le (by omega)] at h
    exact (List.any_eq_false.1 h) y hy
   subst hnone
   have z0 := hbw.free 0
   have z1 := hbw.free 1
   have z2 := hbw.free 2
   have z3 := hbw.free 3
   have z4 := hbw.free 4
   have s0 := hbw.cell 0
   have s1 := hbw.cell 1
   have s2 := hbw.cell 2
   have s3 := hbw.cell 3
   have s4 := hbw.cell 4
   simp only [List.getElem?_cons_zero, List.getElem?_cons_succ] at s0 s1 s2 s3 s4
   have hbz2 := later_ hbV hbl
   clear hbw HA HR
   go_wp2
   refine bodyPost_ret (v := .tuple #[.agg #[.int .i64 0, .int .i64 0, .int .u64 0, .int .u64 0, .int .i64 0], .bool false]) (by simp [results, go_sem, *]) rfl ⟨rfl, ?_⟩
   exact ((((hbz2.setCell (p := ⟨g, 0, none⟩) hgw _).setCell (p := ⟨g, 1, none⟩) hgw _).setCell (p := ⟨g, 2, none⟩) hgw _).setCell (p := ⟨g, 3, none⟩) hgw _).setCell (p := ⟨g, 4, none⟩) hgw _
end Go.Proofs.YtpdaolongmgmgaaGreatDoor
namespace Go.Proofs.YtpdaolongmgmgaaGreatDoor
open Go Go.RowKit
end Go.Proofs.YtpdaolongmgmgaaGreatDoor
namespace Go.Proofs.YtpdaolongmgmgaaGreatDoor
open Go Go.RowKit Go.Lib
end Go.Proofs.YtpdaolongmgmgaaGreatDoor
namespace Go.Proofs.YtpdaolongmgmgaaGreatDoor
open Go Go.RowKit Go.Lib
def RefPost (w : World) (R : List It) (e : Ending) (w' : World) : Prop := ∃ A' k c', e = .returned (.slice A' k c') ∧ k = R.length ∧ Its w.heap.size w' A' k c' R ∧ Below w.heap.size w w'
end Go.Proofs.YtpdaolongmgmgaaGreatDoor
namespace Go.Proofs.YtpdaolongmgmgaaGreatDoor
open Go Go.RowKit Go.Lib
def slLen : Value → Nat
 | .slice _ n _ => n
 | _ => 0
theorem its_len {w : World} {L : Nat} {ns : List Nd} (h : SkAt w L ns) : (its ns).length + 1 = ns.length := by
 obtain ⟨hd, tl, hns, _⟩ := h.head
 rw [hns]
 simp [its]
set_option maxRecDepth 100000 in
set_option maxHeartbeats 2000000 in
theorem level1_any (L : Nat) (ns : List Nd) (w : World) (hs : SkAt w L ns) (hn : ns.length ≤ 1000000) :
  Calls Tryz.prog 268 #[.pointer (some ⟨L, 0, none⟩), .int .i64 1] w (RefPost w (its ns)) := by
 obtain ⟨i0, hi0, hz0, hz1, hz2⟩ := info_parts info_item
 obtain ⟨hd, tl, hns, h6, hL⟩ := hs.head
 have l0 := hL.cell 0
 simp only [List.getElem?_cons_zero] at l0
 have hhd : ns[0]? = some hd := by rw [hns]; rfl
 have hnl := its_len hs
 have hc0 : hd.h > 0 := by omega
 obtain ⟨n5, ⟨nl, nf⟩, nc, nc6⟩ := hs.core.look hhd hc0
 have hnc : (0 : Int) < (hd.c : Int) := by omega
 have hw0 : IntKind.i64.wrap 0 = 0 := by decide
 have hld := apload_any hd.tb 0 _ w nl (hs.core.ptr 0 1)
 rw [nxb_low hs.tall] at hld
 obtain ⟨l, hl⟩ : ∃ l, l = its ns := ⟨_, rfl⟩
 have hget : ∀ k n, ns[k + 1]? = some n → k < l.length ∧ l[k]? = some n.x := fun k n h => by
  have := its_get (ns := ns) k
  rw [h, ← hl] at this
  exact ⟨(List.getElem?_eq_some_iff.1 this).1, this⟩
 rw [← hl] at hnl
 have HLD := Lib.hid hld
 have HL := Lib.hid hl
 have HG := Lib.hid hget
 have HS := Lib.hid hs
 clear hld hl hget hs hns h6 hL hhd nl nf nc nc6
 rw [← HL.out]
 go_enter Tryz.func268, Tryz.ntmps268
 go_wp2_with fail
 refine HLD.out.mono ?_
 rintro e w1 ⟨rfl, hw1⟩
 subst hw1
 go_wp2_with fail
 go_loopw [5, 6] (fun s p wr => ∃ (k : Nat) (A2 : Option Addr) (c2 : Nat), k ≤ l.length ∧ s = .slice A2 k c2 ∧ p = .pointer ((ns[k + 1]?).map fun n => ⟨n.b, 0, none⟩) ∧ Hid (wr.ownsRow w1.heap.size 41 5 (.slice A2 k c2) k (itc (l.take k))) ∧ Below w1.heap.size w1 wr) (fun s _ _ => l.length - slLen s)
 case atStart => exact ⟨0, none, 0, Nat.zero_le _, rfl, rfl, Lib.hid (World.ownsRow_nil _ _ _ _), Below.refl _ _⟩
 case round =>
  obtain ⟨k, A2, c2, hk, rfl, rfl, HQ, hbl⟩ := hrel
  cases hn3 : ns[k + 1]? with
  | none =>
   have hall : k = l.length := by
    have := List.getElem?_eq_none_iff.1 hn3
    omega
   have hq := HQ.out
   rw [hall, List.take_length] at hq
   obtain ⟨A3, c3, hv, hqc, hqm, hlow⟩ := own_form hq
   injection hv with e1 e2 e3
   subst e1 e3
   have hits : Its w1.heap.size wr A2 l.length c2 l := ⟨Row.own hq, hqc, hqm, fun p hp => (hlow p hp).1⟩
   have HFF := Lib.hid hits
   clear hits hq hlow hqc hqm HQ
   subst hall
   simp only [Option.map_none]
   go_wp2
   go_ret
   exact ⟨A2, _, c2, rfl, rfl, HFF.out, hbl⟩
  | some n3 =>
   obtain ⟨hkl, hlk⟩ := HG.out k n3 hn3
   have hsr := HS.out.below hbl
   have hnd := hsr.core.node n3 (List.mem_of_getElem? hn3)
   have d0 := hnd.cell 0
   have d1 := hnd.cell 1
   have d2 := hnd.cell 2
   have d3 := hnd.cell 3
   have d4 := hnd.cell 4
   simp only [It.cells, List.cons_append, List.nil_append, List.getElem?_cons_zero, List.getElem?_cons_succ] at d0 d1 d2 d3 d4
   have hdx : itc (l.take k) ++ n3.x.cells = itc (l.take (k + 1)) := by
    rw [List.take_add_one, hlk, itc_append]
    simp [itc]
   have h3h : 0 < n3.h := HS.out.tall n3 (List.mem_of_getElem? hn3)
   generalize hx3 : n3.x = x at *
   have hvb : BoxO (wr.alloc (.cells #[.int .i64 x.s, .int .i64 x.k, .int .u64 (x.t : Int), .int .u64 (x.v : Int), .int .i64 x.x] 41)) 41 wr.heap.size x.cells := BoxO.new wr #[.int .i64 x.s, .int .i64 x.k, .int .u64 (x.t : Int), .int .u64 (x.v : Int), .int .i64 x.x] 41
   have hbA := (Below.refl wr.heap.size wr).alloc (Nat.le_refl _) (.cells #[.int .i64 x.s, .int .i64 x.k, .int .u64 (x.t : Int), .int .u64 (x.v : Int), .int .i64 x.x] 41)
   have ho4 := own_below HQ.out hbA
   have hb4 := later_ hbl hbA
   have HR := Lib.hid (irow_box hvb)
   have HO := Lib.hid ho4
   have HB := Lib.hid hb4
   have HX := Lib.hid hdx
   have HN := Lib.hid (And.intro hn3 h3h)
   clear hvb hbA ho4 hb4 HQ hdx hsr hnd hlk hn3 h3h hx3
   simp only [Option.map_some]
   go_wp2_with (at_builtin; refine stop_in ?_)
   refine stop_out (wpList_app rfl (.tmp 34) (.tmp 39) _ rfl w1.heap.size 41 i0 _ 5 40 Tryz.underlying38 hi0 hz0 hz1 hz2 rfl (by omega) w1 HB.out HB.out.size _ k (itc (l.take k)) rfl HO.out (wr.alloc (.cells #[.int .i64 x.s, .int .i64 x.k, .int .u64 (x.t : Int), .int .u64 (x.v : Int), .int .i64 x.x] 41)).heap.size _ 1 1 x.cells rfl HR.out (fun v hv => itc_one [x] v (by simpa [itc] using hv)) (k + 1) _ rfl HX.out (by unfold maxLen; omega) (by omega) ?_)
   intro A3 c3 w5 h1 h2 h3 h4 h5
   have hsr := HS.out.below h2
   obtain ⟨m5, ⟨ml, mf⟩, mc, mc6⟩ := hsr.core.look HN.out.1 HN.out.2
   have hmc : (0 : Int) < (n3.c : Int) := by omega
   have hld := apload_any n3.tb 0 _ w5 ml (hsr.core.ptr 0 _)
   rw [nxb_low HS.out.tall, Option.map_map] at hld
   have HLD2 := Lib.hid hld
   have H5 := Lib.hid h1
   clear h1 h3 HX HR HO HB hld ml mf hsr d0 d1 d2 d3 d4
   go_wp2_with fail
   refine HLD2.out.mono ?_
   rintro e w7 ⟨rfl, hw7⟩
   subst hw7
   go_wp2
   go_roundw
   case rel => exact ⟨k + 1, A3, c3, by omega, rfl, rfl, H5, h2⟩
   case measure => simp [slLen]; omega
theorem sall_any (L : Nat) (ns : List Nd) (w : World) (hs : SkAt w L ns) (hn : ns.length ≤ 1000000) :
  Calls Tryz.prog 213 #[.pointer (some ⟨L, 0, none⟩)] w (RefPost w (its ns)) := by
 have HL := Lib.hid (level1_any L ns w hs hn)
 go_enter Tryz.func213, Tryz.ntmps213
 go_wp2_with fail
 refine HL.out.mono ?_
 rintro e w1 ⟨A', k, c', rfl, h1, h2, h3⟩
 subst h1
 go_wp2
 go_ret
 exact ⟨A', _, c', rfl, rfl, h2, h3⟩
theorem slen_any (L : Nat) (ns : List Nd) (w : World) (hs : SkAt w L ns) :
  Calls Tryz.prog 124 #[.pointer (some ⟨L, 0, none⟩)] w fun e w' => e = .returned (.int .i64 ((its ns).length : Int)) ∧ w' = w := by
 obtain ⟨hd, tl, hns, h6, hL⟩ := hs.head
 have hl := its_len hs
 have l1 := hL.cell 1
 simp only [List.getElem?_cons_zero, List.getElem?_cons_succ] at l1
 have e : tl.length = (its ns).length := by rw [hns] at hl ⊢; simp at hl; omega
 rw [e] at l1
 clear hl e hns
 go_enter Tryz.func124, Tryz.ntmps124
 go_wp2
 go_ret
 exact ⟨rfl, rfl⟩
end Go.Proofs.YtpdaolongmgmgaaGreatDoor
namespace Go.Proofs.YtpdaolongmgmgaaGreatDoor
open Go Go.RowKit Go.Lib
def e8 (n : Nat) : List UInt8 := [56, 48, 40, 32, 24, 16, 8, 0].map fun k => UInt8.ofNat (n / 2 ^ k)
theorem e8_take (n : Nat) {k : Nat} (hk : k < 8) : (e8 n).take (k + 1) = (e8 n).take k ++ [UInt8.ofNat (n / 2 ^ (56 - 8 * k))] := by
 have e : k = 0 ∨ k = 1 ∨ k = 2 ∨ k = 3 ∨ k = 4 ∨ k = 5 ∨ k = 6 ∨ k = 7 := by omega
 rcases e with rfl | rfl | rfl | rfl | rfl | rfl | rfl | rfl <;> rfl
set_option maxRecDepth 100000 in
set_option maxHeartbeats 1000000 in
theorem eight_any (A : Option Addr) (N c : Nat) (l : List UInt8) (n : Nat) (hn : n < 18446744073709551616) (w : World) (hN : N ≤ 1073741824) (hr : Row w.heap.size w A N 1 (bts l)) :
  Calls Tryz.prog 231 #[.slice A N c, .int .u64 (n : Int)] w fun e w' => ∃ A' c', e = .returned (.slice A' (N + 8) c') ∧
   w'.ownsRow w.heap.size 5 1 (.slice A' (N + 8) c') (N + 8) (bts (l ++ e8 n)) ∧ N + 8 ≤ c' ∧ c' ≤ maxLen ∧ Below w.heap.size w w' := by
 obtain ⟨i0, hi0, hz0, hz1, hz2⟩ := info_parts info_u8
 go_enter Tryz.func231, Tryz.ntmps231
 go_wp2_with (at_builtin; refine stop_in ?_)
 refine stop_out (wpList_app0 rfl (.const (.slice none 0 0)) (.tmp 7) _ rfl w.heap.size 5 i0 _ 1 1 Tryz.underlying22 hi0 hz0 hz1 hz2 rfl (by omega) w (Below.refl _ _) (Nat.le_refl _) rfl w.heap.size A N c (bts l) rfl hr (bts_one l) (by unfold maxLen; omega) (by omega) ?_)
 intro A2 c2 w2 hown2 hb2 hg2 hc2 hm2
 go_wp2
 go_loopw [5, 6] (fun o m wr => ∃ (k : Nat) (A' : Option Addr) (c' : Nat), k ≤ 8 ∧ o = .slice A' (N + k) c' ∧ m = .int .i64 (56 - 8 * (k : Int)) ∧ wr.ownsRow w.heap.size 5 1 (.slice A' (N + k) c') (N + k) (bts (l ++ (e8 n).take k)) ∧ N + k ≤ c' ∧ c' ≤ maxLen ∧ Below w.heap.size w wr) (fun _ m _ => (intOf m + 8).toNat)
 case atStart => exact ⟨0, A2, c2, by omega, rfl, rfl, by simpa using hown2, hc2, hm2, hb2⟩
 case round =>
  obtain ⟨k, A', c', hk, rfl, rfl, hown, hc', hm', hb⟩ := hrel
  have HO := Lib.hid hown
  clear hown
  by_cases hk8 : k < 8
  ·have h0 : 8 * (k : Int) ≤ 56 := by omega
   go_wp2_with (at_builtin; refine stop_in ?_)
   have hbox : Row (wr.heap.size + 1) (wr.alloc (.cells #[.int .u8 ((UInt8.ofNat (n / 2 ^ (56 - 8 * k))).toNat : Int)] 5)) (some ⟨wr.heap.size, 0, none⟩) 1 1 (bts [UInt8.ofNat (n / 2 ^ (56 - 8 * k))]) := box_row _ _ _
   refine stop_out (wpList_app rfl (.tmp 13) (.tmp 18) _ rfl w.heap.size 5 i0 _ 1 1 Tryz.underlying22 hi0 hz0 hz1 hz2 rfl (by omega) w (hb.alloc hb.size _) (Nat.le_trans hb.size (by simp)) _ (N + k) (bts (l ++ (e8 n).take k)) rfl (HO.out.alloc _) (wr.heap.size + 1) _ 1 1 (bts [UInt8.ofNat (n / 2 ^ (56 - 8 * k))]) rfl hbox (bts_one _) (N + (k + 1)) (bts (l ++ (e8 n).take (k + 1))) (by omega) (by rw [e8_take n hk8]; simp [bts]) (by unfold maxLen; omega) (by omega) ?_)
   intro A3 c3 w3 hown3 hb3 _ hc3 hm3
   have HO3 := Lib.hid hown3
   clear hown3 HO hbox
   go_wp2
   go_roundw
   case rel => exact ⟨k + 1, A3, c3, by omega, rfl, by go_num, HO3.out, hc3, hm3, hb3⟩
   case measure => simp [intOf]; omega
  ·obtain rfl : k = 8 := by omega
   have HF := Lib.hid (show wr.ownsRow w.heap.size 5 1 (.slice A' (N + 8) c') (N + 8) (bts (l ++ e8 n)) from HO.out)
   clear HO
   go_wp2
   go_ret
   exact ⟨A', c', rfl, HF.out, hc', hm', hb⟩
theorem iu8_of {x : Int} (h0 : 0 ≤ x) (h1 : x ≤ 255) : IntKind.u8.wrap x = ((UInt8.ofNat x.toNat).toNat : Int) := by
 rw [← byte_of_nat]
 simp only [IntKind.wrap_u8]
 omega
set_option maxRecDepth 100000 in
set_option maxHeartbeats 1000000 in
theorem key_any (x : It) (hk : x.ok = true) (w : World) :
  Calls Tryz.prog 163 #[x.val] w fun e w' => ∃ A' c', e = .returned (.slice A' 10 c') ∧ Row w'.heap.size w' A' 10 1 (bts x.key) ∧ 10 ≤ c' ∧ c' ≤ maxLen ∧ Below w.heap.size w w' := by
 rw [It.ok_iff] at hk
 have e1 := iu8_of (x := x.s) (by omega) (by omega)
 have e2 := iu8_of (x := x.k) (by omega) (by omega)
 have ht : x.t < 18446744073709551616 := by omega
 have h8 := fun (W : World) (A : Option Addr) (c : Nat) hr => eight_any A 2 c [UInt8.ofNat x.s.toNat, UInt8.ofNat x.k.toNat] x.t ht W (by omega) hr
 have HK := Lib.hid (show [UInt8.ofNat x.s.toNat, UInt8.ofNat x.k.toNat] ++ e8 x.t = x.key from rfl)
 unfold It.val
 generalize UInt8.ofNat x.s.toNat = u1 at *
 generalize UInt8.ofNat x.k.toNat = u2 at *
 have hW := (Below.refl w.heap.size w).alloc (Nat.le_refl _) (.cells #[.int .i64 x.s, .int .i64 x.k, .int .u64 (x.t : Int), .int .u64 (x.v : Int), .int .i64 x.x] 41)
 have H8 := Lib.hid h8
 have HW := Lib.hid hW
 clear h8 hk hW
 go_enter Tryz.func163, Tryz.ntmps163
 go_wp2_with fail
 have hrow : Row ((w.alloc (.cells #[.int .i64 x.s, .int .i64 x.k, .int .u64 (x.t : Int), .int .u64 (x.v : Int), .int .i64 x.x] 41)).alloc (.cells #[.int .u8 (u1.toNat : Int), .int .u8 (u2.toNat : Int)] 5)).heap.size ((w.alloc (.cells #[.int .i64 x.s, .int .i64 x.k, .int .u64 (x.t : Int), .int .u64 (x.v : Int), .int .i64 x.x] 41)).alloc (.cells #[.int .u8 (u1.toNat : Int), .int .u8 (u2.toNat : Int)] 5)) (some ⟨w.heap.size + 1, 0, none⟩) 2 1 (bts [u1, u2]) := by
  have := Row.new (w.alloc (.cells #[.int .i64 x.s, .int .i64 x.k, .int .u64 (x.t : Int), .int .u64 (x.v : Int), .int .i64 x.x] 41)) #[.int .u8 (u1.toNat : Int), .int .u8 (u2.toNat : Int)] 5 (n := 2) (size := 1) rfl
  simpa [bts] using this
 have hb := HW.out.alloc HW.out.size (.cells #[.int .u8 (u1.toNat : Int), .int .u8 (u2.toNat : Int)] 5)
 refine (H8.out _ _ _ hrow).mono ?_
 rintro e w2 ⟨A', c', rfl, ho, h1, h2, h3⟩
 rw [HK.out] at ho
 have HO := Lib.hid (show Row w2.heap.size w2 A' 10 1 (bts x.key) from Row.own ho)
 clear ho hrow H8
 go_wp2
 go_ret
 exact ⟨A', c', rfl, HO.out, h1, h2, later_ hb h3⟩
theorem sgn_bits (x : Int) (h1 : -9223372036854775808 ≤ x) (h2 : x < 9223372036854775808) :
  bits .xor .u64 (IntKind.u64.wrap (IntKind.u64.wrap x * 2)) (IntKind.u64.wrap (x / 9223372036854775808)) = (sgn x : Int) := by
 have key : ∀ a b : Nat, a < 2 ^ 64 → b < 2 ^ 64 → bits .xor .u64 (a : Int) (b : Int) = ((BitVec.ofNat 64 a ^^^ BitVec.ofNat 64 b).toNat : Int) := fun a b ha hb => by
  have := bits64_xor (BitVec.ofNat 64 a) (BitVec.ofNat 64 b)
  rw [BitVec.toNat_ofNat, BitVec.toNat_ofNat, Nat.mod_eq_of_lt ha, Nat.mod_eq_of_lt hb] at this
  exact this
 unfold sgn
 simp only [IntKind.wrap_u64]
 by_cases h0 : 0 ≤ x
 ·rw [if_pos h0]
  have e1 : x / 9223372036854775808 % 18446744073709551616 = ((0 : Nat) : Int) := by omega
  have e2 : x % 18446744073709551616 * 2 % 18446744073709551616 = ((2 * x).toNat : Int) := by omega
  rw [e1, e2, key _ _ (by omega) (by omega)]
  simp
  omega
 ·rw [if_neg h0]
  have e1 : x / 9223372036854775808 % 18446744073709551616 = ((18446744073709551615 : Nat) : Int) := by omega
  have e2 : x % 18446744073709551616 * 2 % 18446744073709551616 = ((2 * x + 18446744073709551616).toNat : Int) := by omega
  rw [e1, e2, key _ _ (by omega) (by omega)]
  have e3 : BitVec.ofNat 64 18446744073709551615 = BitVec.allOnes 64 := by decide
  rw [e3, BitVec.xor_allOnes, BitVec.toNat_not, BitVec.toNat_ofNat]
  omega
set_option maxRecDepth 100000 in
set_option maxHeartbeats 1000000 in
theorem sign_any (x : Int) (h1 : -9223372036854775808 ≤ x) (h2 : x < 9223372036854775808) (w : World) :
  Calls Tryz.prog 269 #[.int .i64 x] w fun e w' => e = .returned (.int .u64 (sgn x : Int)) ∧ w' = w := by
 go_enter Tryz.func269, Tryz.ntmps269
 have HS := Lib.hid (sgn_bits x h1 h2)
 go_wp2
 rw [HS.out]
 go_ret
 exact ⟨rfl, rfl⟩
end Go.Proofs.YtpdaolongmgmgaaGreatDoor
namespace Go.Proofs.YtpdaolongmgmgaaGreatDoor
open Go.RowKit
theorem fnv_bits (h : BitVec 64) (c : UInt8) : IntKind.u64.wrap (bits .xor .u64 (h.toNat : Int) (IntKind.u64.wrap (c.toNat : Int)) * 1099511628211) = ((Fnv.byte h c).toNat : Int) := by
 have h1 : IntKind.u64.wrap (c.toNat : Int) = ((BitVec.ofNat 64 c.toNat).toNat : Int) := by
  rw [← byte64, IntKind.wrap_u64]
  have := c.toNat_lt
  omega
 rw [h1, bits64_xor, IntKind.wrap_u64, Fnv.byte, BitVec.toNat_mul]
 rfl
set_option maxHeartbeats 400000 in
theorem hash_any (A : Option Addr) (n c : Nat) (l : List UInt8) (w : World) (hn : n ≤ 9223372036854775807) (hr : Row w.heap.size w A n 1 (bts l)) :
  Calls Tryz.prog 197 #[.slice A n c] w fun e w' => e = .returned (.int .u64 ((Fnv.hash l).toNat : Int)) ∧ w = w' := by
 go_enter Tryz.func197, Tryz.ntmps197
 go_wp2
 go_loop [3, 8, 5] (fun x i _ => ∃ k : Nat, k ≤ n ∧ i = .int .i64 k ∧ x = .int .u64 ((Fnv.go Fnv.basis (l.take k)).toNat : Int)) (fun _ i _ => n - (intOf i).toNat)
 case atStart => exact ⟨0, Nat.zero_le _, rfl, rfl⟩
 case round =>
  obtain ⟨k, hk, rfl, rfl⟩ := hrel
  by_cases hlt : k < n
  ·obtain ⟨a, hl, rfl, _, hc⟩ := hr.bt hlt
   go_wp2
   go_round
   case rel => exact ⟨k + 1, by omega, by go_num, int_eq (by rw [Fnv.go_snoc _ _ _ hl, fnv_bits])⟩
   case measure => simp [intOf]; omega
  ·go_wp2
   go_ret
   exact ⟨ret_eq (int_eq (by rw [List.take_of_length_le (by have := hr.btlen; omega)]; rfl)), rfl⟩
end Go.Proofs.YtpdaolongmgmgaaGreatDoor
namespace Go.Proofs.YtpdaolongmgmgaaGreatDoor
open Go Go.RowKit Go.Lib
set_option maxRecDepth 100000 in
set_option maxHeartbeats 1000000 in
theorem aiload_any (g j : Nat) (x : Int) (w : World) (hc : w.cell? ⟨g, j, none⟩ = some (.int .i64 x)) :
  Calls Tryz.prog 71 #[.pointer (some ⟨g, j, none⟩)] w fun e w' => e = .returned (.int .i64 x) ∧ w' = w := by
 have hld := run_call_load (P := Tryz.prog) Tryz.func142 (by kernel_rfl) (by kernel_rfl) (by kernel_rfl) .i64 (by kernel_rfl) hc
 go_enter Tryz.func71, Tryz.ntmps71
 go_wp2
 go_ret
 exact ⟨rfl, rfl⟩
set_option maxRecDepth 100000 in
set_option maxHeartbeats 1000000 in
theorem aistore_any (g j : Nat) (x y : Int) (w : World) (hc : w.cell? ⟨g, j, none⟩ = some (.int .i64 x)) (hz : w.frozen? ⟨g, j, none⟩ = false) :
  Calls Tryz.prog 110 #[.pointer (some ⟨g, j, none⟩), .int .i64 y] w fun e w' => e = .returned (.tuple #[]) ∧ w' = w.setCell ⟨g, j, none⟩ (.int .i64 y) := by
 have hst := run_call_store (P := Tryz.prog) Tryz.func188 (by kernel_rfl) (by kernel_rfl) (by kernel_rfl) (by kernel_rfl) (k := .i64) (y := y) hc hz
 go_enter Tryz.func110, Tryz.ntmps110
 go_wp2
 exact bodyPost_end (v := .tuple #[]) (by simp [results, go_sem]) rfl ⟨rfl, rfl⟩
set_option maxRecDepth 100000 in
set_option maxHeartbeats 1000000 in
theorem aiadd_any (g j : Nat) (x : Int) (w : World) (h0 : 0 ≤ x) (h1 : x ≤ 1000000000) (hc : w.cell? ⟨g, j, none⟩ = some (.int .i64 x)) (hz : w.frozen? ⟨g, j, none⟩ = false) :
  Calls Tryz.prog 139 #[.pointer (some ⟨g, j, none⟩), .int .i64 1] w fun e w' => e = .returned (.int .i64 (x + 1)) ∧ w' = w.setCell ⟨g, j, none⟩ (.int .i64 (x + 1)) := by
 have hwr : IntKind.i64.wrap (x + 1) = x + 1 := IntWalk.i64_in _ (by omega)
 have hadd := run_call_add (P := Tryz.prog) Tryz.func214 (by kernel_rfl) (by kernel_rfl) (by kernel_rfl) .i64 (by kernel_rfl) (y := 1) (s := x + 1) hc hz (by simp [go_sem, hwr])
 go_enter Tryz.func139, Tryz.ntmps139
 go_wp2
 go_ret
 exact ⟨rfl, rfl⟩
end Go.Proofs.YtpdaolongmgmgaaGreatDoor
namespace Go.Proofs.YtpdaolongmgmgaaGreatDoor
open Go Go.RowKit Go.Lib
structure MmAt (w : World) (m L : Nat) (ns : List Nd) : Prop where
 box : ∃ sz : Int, BoxO w 180 m [.pointer (some ⟨L, 0, none⟩), .int .u32 0, .int .i32 0, .int .u32 0, .bool false, .int .i64 sz]
 sk : SkAt w L ns
 out : m ∉ skF L ns
variable {w w' : World} {m L : Nat} {ns : List Nd}
theorem MmAt.chg {F : List Nat} (h : MmAt w m L ns) (c : Chg F w w') (hF : ∀ g ∈ m :: skF L ns, g ∉ F) : MmAt w' m L ns :=
 ⟨let ⟨sz, a⟩ := h.box; ⟨sz, a.chg c (hF m List.mem_cons_self)⟩, h.sk.chg c (fun g hg => hF g (List.mem_cons_of_mem _ hg)), h.out⟩
theorem MmAt.below (h : MmAt w m L ns) (c : Below w.heap.size w w') : MmAt w' m L ns := h.chg (Chg.of_below c []) (fun _ _ => by simp)
set_option maxRecDepth 100000 in
set_option maxHeartbeats 1000000 in
theorem mmnew_any (w : World) : Calls Tryz.prog 47 #[] w fun e w' => ∃ m L ns, e = .returned (.pointer (some ⟨m, 0, none⟩)) ∧ MmAt w' m L ns ∧ its ns = [] ∧ Below w.heap.size w w' ∧ ∀ g ∈ m :: skF L ns, w.heap.size ≤ g := by
 have HN := Lib.hid (snew_any w)
 go_enter Tryz.func47, Tryz.ntmps47
 go_wp2_with fail
 refine HN.out.mono ?_
 rintro e w1 ⟨L, ns, rfl, h1, h2, h3, h4⟩
 have HF := Lib.hid (And.intro h1 (And.intro h2 (And.intro h3 h4)))
 clear h1 h2 h3 h4 HN
 go_wp2
 go_ret
 obtain ⟨h1, h2, h3, h4⟩ := HF.out
 have hs := h3.size
 refine ⟨w1.heap.size, L, ns, rfl, ⟨⟨0, BoxO.new _ _ _⟩, h1.below ((Below.refl _ _).alloc (Nat.le_refl _) _), fun hm => ?_⟩, h2, h3.alloc hs _, fun g hg => ?_⟩
 ·have := h1.lt _ hm
  omega
 ·rcases List.mem_cons.1 hg with rfl | hg
  ·exact hs
  ·exact h4 g hg
theorem mmitems_any (h : MmAt w m L ns) (hn : ns.length ≤ 1000000) : Calls Tryz.prog 135 #[.pointer (some ⟨m, 0, none⟩)] w (RefPost w (its ns)) := by
 obtain ⟨sz, hb⟩ := h.box
 have c0 := hb.cell 0
 simp only [List.getElem?_cons_zero] at c0
 have HL := Lib.hid (sall_any L ns w h.sk hn)
 clear hb h
 go_enter Tryz.func135, Tryz.ntmps135
 go_wp2_with fail
 refine HL.out.mono ?_
 rintro e w1 ⟨A', k, c', rfl, h1, h2, h3⟩
 subst h1
 go_wp2
 go_ret
 exact ⟨A', _, c', rfl, rfl, h2, h3⟩
theorem mmlen_any (h : MmAt w m L ns) : Calls Tryz.prog 72 #[.pointer (some ⟨m, 0, none⟩)] w fun e w' => e = .returned (.int .i64 ((its ns).length : Int)) ∧ w' = w := by
 obtain ⟨sz, hb⟩ := h.box
 have c0 := hb.cell 0
 simp only [List.getElem?_cons_zero] at c0
 have HL := Lib.hid (slen_any L ns w h.sk)
 clear hb h
 go_enter Tryz.func72, Tryz.ntmps72
 go_wp2_with fail
 refine HL.out.mono ?_
 rintro e w1 ⟨rfl, rfl⟩
 go_wp2
 go_ret
 exact ⟨rfl, rfl⟩
set_option maxRecDepth 100000 in
set_option maxHeartbeats 1000000 in
theorem height_any (x : It) (hk : x.ok = true) (w : World) : Calls Tryz.prog 123 #[x.val] w fun e w' => ∃ k : Nat, 1 ≤ k ∧ k ≤ 6 ∧ e = .returned (.int .i64 (k : Int)) ∧ Below w.heap.size w w' := by
 have hky := fun W => key_any x hk W
 have hW := (Below.refl w.heap.size w).alloc (Nat.le_refl _) (.cells #[.int .i64 x.s, .int .i64 x.k, .int .u64 (x.t : Int), .int .u64 (x.v : Int), .int .i64 x.x] 41)
 unfold It.val at *
 have HKY := Lib.hid hky
 have HW := Lib.hid hW
 clear hky hW
 go_enter Tryz.func123, Tryz.ntmps123
 go_wp2_with fail
 refine (HKY.out _).mono ?_
 rintro e w1 ⟨A', c', rfl, hr, h1, h2, h3⟩
 have hb := later_ HW.out h3
 have HH := Lib.hid (hash_any A' 10 c' x.key w1 (by omega) hr)
 clear hr h3 HW HKY
 go_wp2_with fail
 refine HH.out.mono ?_
 rintro e w2 ⟨rfl, rfl⟩
 generalize (Fnv.hash x.key).toNat = hv
 clear HH
 go_wp2_with fail
 go_loopw [3, 4] (fun n h wr => ∃ k hv : Nat, 1 ≤ k ∧ k ≤ 6 ∧ n = .int .i64 (k : Int) ∧ h = .int .u64 (hv : Int) ∧ wr = w1) (fun n _ _ => 6 - (intOf n).toNat)
 case atStart => exact ⟨1, hv, by omega, by omega, rfl, rfl, rfl⟩
 case round =>
  obtain ⟨k, hv, hk1, hk6, rfl, rfl, rfl⟩ := hrel
  have hwk : IntKind.i64.wrap ((k : Int) + 1) = ((k + 1 : Nat) : Int) := by rw [IntWalk.i64_in _ (by omega)]; omega
  obtain ⟨b, hbb⟩ : ∃ b : Bool, (bits .and .u64 (hv : Int) 3 == 0) = b := ⟨_, rfl⟩
  cases b with
  | false =>
   go_wp2
   go_ret
   exact ⟨k, hk1, hk6, rfl, hb⟩
  | true =>
   by_cases h6 : k < 6
   ·have h6i : (k : Int) < 6 := by omega
    go_wp2
    go_roundw
    case rel => exact ⟨k + 1, hv / 4, by omega, by omega, rfl, by go_num, trivial⟩
    case measure => simp [intOf]; omega
   ·have h6i : ((k : Int) < 6) = False := eq_false (by omega)
    go_wp2
    go_ret
    exact ⟨k, hk1, hk6, rfl, hb⟩
def MmPost (w : World) (m L : Nat) (ns : List Nd) (l : List It) (e : Ending) (w' : World) : Prop := ∃ ns', e = .returned (.int .i64 0) ∧ MmAt w' m L ns' ∧ its ns' = l.foldl wput (its ns) ∧ Chg (m :: skF L ns) w w' ∧ ∀ g ∈ skF L ns', g ∈ skF L ns ∨ w.heap.size ≤ g
theorem wput_len1 (l : List It) (x : It) : (wput l x).length ≤ l.length + 1 := by
 unfold wput
 split
 ·omega
 ·unfold put
  have h1 := List.length_filter_le (fun y => It.less y x) l
  rw [List.length_append, List.length_cons]
  have : ∀ l : List It, (l.filter fun y => It.less y x).length + (l.filter fun y => It.less x y).length ≤ l.length := by
   intro l
   induction l with
   | nil => simp
   | cons a r ih =>
    simp only [List.filter_cons]
    cases h2 : It.less a x <;> cases h3 : It.less x a
    ·simp; omega
    ·simp; omega
    ·simp; omega
    ·rw [It.less_iff] at h2 h3; omega
  have := this l
  omega
theorem wputs_len : ∀ (b a : List It), (b.foldl wput a).length ≤ a.length + b.length
 | [], a => by simp
 | x :: b, a => by
  have h1 := wputs_len b (wput a x)
  have h2 := wput_len1 a x
  simp only [List.foldl_cons, List.length_cons]
  omega
theorem mm_step {w1 wr w7 w8 : World} {ns' ns2 : List Nd} {R : List It} {x : It} (K : MmAt wr m L ns' ∧ its ns' = R ∧ Chg (m :: skF L ns) w1 wr ∧ ∀ g ∈ skF L ns', g ∈ skF L ns ∨ w1.heap.size ≤ g)
  (b7 : Below wr.heap.size wr w7) (q1 : SkAt w8 L ns2) (q2 : its ns2 = wput (its ns') x) (q3 : Chg (skF L ns') w7 w8) (q4 : ∀ g ∈ skF L ns2, g ∈ skF L ns' ∨ w7.heap.size ≤ g) :
  MmAt w8 m L ns2 ∧ its ns2 = wput R x ∧ Chg (m :: skF L ns) w1 w8 ∧ ∀ g ∈ skF L ns2, g ∈ skF L ns ∨ w1.heap.size ≤ g := by
 obtain ⟨k1, k2, k3, k4⟩ := K
 obtain ⟨sz, hb⟩ := (k1.below b7).box
 have hs1 := k3.size
 have hs2 := b7.size
 have hml : m < wr.heap.size := by
  obtain ⟨sz, hb⟩ := k1.box
  exact hb.lt
 refine ⟨⟨⟨sz, hb.chg q3 k1.out⟩, q1, fun hm => ?_⟩, by rw [q2, k2], (k3.trans (Chg.of_below b7 (m :: skF L ns)) (fun g hg => .inl hg)).trans q3 (fun g hg => ?_), fun g hg => ?_⟩
 ·rcases q4 m hm with h | h
  ·exact k1.out h
  ·omega
 ·rcases k4 g hg with h | h
  ·exact .inl (List.mem_cons_of_mem _ h)
  ·exact .inr h
 ·rcases q4 g hg with h | h
  ·exact k4 g h
  ·exact .inr (by omega)
set_option maxRecDepth 100000 in
set_option maxHeartbeats 4000000 in
theorem mmapply_any (h : MmAt w m L ns) (A : Option Addr) (n c : Nat) (l : List It) (hn : n ≤ 400000) (hnl : (its ns).length ≤ 400000) (hr : Row w.heap.size w A n 5 (itc l)) (hA : ∀ a, A = some a → a.block ≠ m ∧ a.block ∉ skF L ns) (hk : l.all It.ok = true) :
  Calls Tryz.prog 54 #[.pointer (some ⟨m, 0, none⟩), .slice A n c] w (MmPost w m L ns l) := by
 have hnn := hr.itlen
 obtain ⟨sz, hb⟩ := h.box
 have c4 := hb.cell 4
 simp only [List.getElem?_cons_zero, List.getElem?_cons_succ] at c4
 have hal := ihas_cap 120 (fun _ _ => rfl) #[] (fun x => !x.ok) A n c l w (by omega) hr (fun x w1 _ => map1_any x w1)
 rw [any_nok, hk] at hal
 have HAL := Lib.hid hal
 have HKK := Lib.hid hk
 have H := Lib.hid h
 clear hal hk hb h
 go_enter Tryz.func54, Tryz.ntmps54
 go_wp2_with fail
 refine HAL.out.mono ?_
 rintro e w1 ⟨rfl, hb1⟩
 have h1 := H.out.below hb1
 have hr1 := (hr.below hb1).up hb1.size
 have HB1 := Lib.hid hb1
 have H1 := Lib.hid h1
 clear h1 hb1 hr HAL
 go_wp2_with fail
 go_loopw [17] (fun s wr => ∃ (k : Nat) (ns' : List Nd), k ≤ n ∧ s = .int .i64 (k : Int) ∧ Hid (MmAt wr m L ns' ∧ its ns' = (l.take k).foldl wput (its ns) ∧ Chg (m :: skF L ns) w1 wr ∧ ∀ g ∈ skF L ns', g ∈ skF L ns ∨ w1.heap.size ≤ g)) (fun s _ => n - (intOf s).toNat)
 case atStart => exact ⟨0, ns, Nat.zero_le _, rfl, Lib.hid ⟨H1.out, rfl, Chg.refl _ _, fun g hg => .inl hg⟩⟩
 case round =>
  obtain ⟨k, ns', hkn, rfl, HK⟩ := hrel
  by_cases hlt : k < n
  ·have hki : (k : Int) < (n : Int) := by omega
   have hwk : IntKind.i64.wrap (k : Int) = (k : Int) := IntWalk.i64_in _ (by omega)
   have hrk : Row w1.heap.size wr A n 5 (itc l) := HK.out.2.2.1.row hr1 (Nat.le_refl _) (fun a ha hm => by
    rcases List.mem_cons.1 hm with h2 | h2
    ·exact (hA a ha).1 h2
    ·exact (hA a ha).2 h2)
   obtain ⟨p, hl, rfl, hbk, c0, c1, c2', c3, c4⟩ := hrk.it hlt
   have hxk : l[k].ok = true := by have := HKK.out; rw [List.all_eq_true] at this; exact this _ (List.getElem_mem hl)
   have hft : (l.take (k + 1)).foldl wput (its ns) = wput ((l.take k).foldl wput (its ns)) l[k] := by
    rw [List.take_succ_eq_append_getElem hl, List.foldl_append]
    rfl
   generalize l[k] = x at *
   have hnb : ns'.length ≤ 1000000 := by
    have h2 := its_len HK.out.1.sk
    have h3 := wputs_len (l.take k) (its ns)
    rw [← HK.out.2.1, List.length_take] at h3
    omega
   have hUb := (Below.refl wr.heap.size wr).alloc (Nat.le_refl _) (.cells #[.int .i64 x.s, .int .i64 x.k, .int .u64 (x.t : Int), .int .u64 (x.v : Int), .int .i64 x.x] 41)
   have hbx : BoxO (wr.alloc (.cells #[.int .i64 x.s, .int .i64 x.k, .int .u64 (x.t : Int), .int .u64 (x.v : Int), .int .i64 x.x] 41)) 41 wr.heap.size x.cells := BoxO.new wr #[.int .i64 x.s, .int .i64 x.k, .int .u64 (x.t : Int), .int .u64 (x.v : Int), .int .i64 x.x] 41
   have hmm := HK.out.1.below hUb
   have hhe := fun W => height_any x hxk W
   have hpu := fun W (hW : Below wr.heap.size wr W) (h : Nat) h1 h6 => skput_any L h ns' x W (HK.out.1.sk.below hW) hxk h1 h6 hnb
   obtain ⟨sz', hmb⟩ := hmm.box
   have hkc : ∀ w', Below wr.heap.size wr w' → w'.cell? ⟨m, 0, none⟩ = some (.pointer (some ⟨L, 0, none⟩)) := fun w' hw => by
    obtain ⟨sz2, hmb2⟩ := (HK.out.1.below hw).box
    exact hmb2.cell 0
   have hkx : ∀ w', Below (wr.heap.size + 1) (wr.alloc (.cells #[.int .i64 x.s, .int .i64 x.k, .int .u64 (x.t : Int), .int .u64 (x.v : Int), .int .i64 x.x] 41)) w' → w'.cell? ⟨wr.heap.size, 0, none⟩ = some (.int .i64 x.s) ∧ w'.cell? ⟨wr.heap.size, 1, none⟩ = some (.int .i64 x.k) ∧ w'.cell? ⟨wr.heap.size, 2, none⟩ = some (.int .u64 (x.t : Int)) ∧ w'.cell? ⟨wr.heap.size, 3, none⟩ = some (.int .u64 (x.v : Int)) ∧ w'.cell? ⟨wr.heap.size, 4, none⟩ = some (.int .i64 x.x) := fun w' hw => by
    have e := hbx.below (w' := w') (by simpa using hw)
    exact ⟨e.cell 0, e.cell 1, e.cell 2, e.cell 3, e.cell 4⟩
   unfold It.val at hhe hpu
   have HHE := Lib.hid hhe
   have HPU := Lib.hid hpu
   have HUB := Lib.hid hUb
   have HBX := Lib.hid hbx
   have HFT := Lib.hid hft
   have KC := Lib.hid hkc
   have m0 := hmb.cell 0
   have b0 := hbx.cell 0
   have b1 := hbx.cell 1
   have b2 := hbx.cell 2
   have b3 := hbx.cell 3
   have b4 := hbx.cell 4
   simp only [It.cells, List.getElem?_cons_zero, List.getElem?_cons_succ] at b0 b1 b2 b3 b4 m0
   obtain ⟨U, hU⟩ : ∃ U, U = wr.alloc (.cells #[.int .i64 x.s, .int .i64 x.k, .int .u64 (x.t : Int), .int .u64 (x.v : Int), .int .i64 x.x] 41) := ⟨_, rfl⟩
   have hkz : ∀ w', Below U.heap.size U w' → w'.cell? ⟨m, 0, none⟩ = some (.pointer (some ⟨L, 0, none⟩)) ∧ (w'.cell? ⟨wr.heap.size, 0, none⟩ = some (.int .i64 x.s) ∧ w'.cell? ⟨wr.heap.size, 1, none⟩ = some (.int .i64 x.k) ∧ w'.cell? ⟨wr.heap.size, 2, none⟩ = some (.int .u64 (x.t : Int)) ∧ w'.cell? ⟨wr.heap.size, 3, none⟩ = some (.int .u64 (x.v : Int)) ∧ w'.cell? ⟨wr.heap.size, 4, none⟩ = some (.int .i64 x.x)) := fun w' hw => by
    rw [hU] at hw
    have e := hbx.below hw
    have e2 := (hmb.below hw).cell 0
    exact ⟨e2, e.cell 0, e.cell 1, e.cell 2, e.cell 3, e.cell 4⟩
   rw [← hU] at m0 b0 b1 b2 b3 b4 HBX HUB
   have KZ := Lib.hid hkz
   have HU := hU.symm
   clear hhe hpu hUb hbx hft hkc hkx hmb hmm hrk hU hkz HBX KC
   go_wp2_with fail
   clear HU c0 c1 c2' c3 c4
   go_region_with (first
    | (go_at_call 123; refine (HHE.out _).mono ?_; rintro e w7 ⟨hh, hh1, hh6, rfl, hb7'⟩; have hb7 := (below_drew (Below.refl U.heap.size U)).trans hb7'; obtain ⟨m1, d0, d1, d2, d3, d4⟩ := KZ.out w7 hb7)
    | (go_at_call 122; refine (HPU.out _ (later_ HUB.out hb7) hh hh1 hh6).mono ?_; rintro e w8 ⟨bb, ns2, rfl, q1, q2, q3, q4⟩))
   all_goals
    have hst := mm_step HK.out (later_ HUB.out hb7) q1 q2 q3 q4
    rw [← HFT.out] at hst
    have HST := Lib.hid hst
    clear hst q1 q2 q3 q4 hb7 hb7' m1 d0 d1 d2 d3 d4
    go_wp2
    go_roundw
    case rel => exact ⟨k + 1, ns2, by omega, by go_num, HST⟩
    case measure => simp [intOf]; omega
  ·have hki : ((k : Int) < (n : Int)) = False := eq_false (by omega)
   have hall : l.take k = l := List.take_of_length_le (by omega)
   have hkk := HK.out
   rw [hall] at hkk
   obtain ⟨g1, g2, g3, g4⟩ := hkk
   obtain ⟨sz', hmb⟩ := g1.box
   have m0 := hmb.cell 0
   have m5 := hmb.cell 5
   have f5 := hmb.free 5
   simp only [List.getElem?_cons_zero, List.getElem?_cons_succ] at m0 m5
   obtain ⟨N, hN⟩ : ∃ N, N = (its ns').length := ⟨_, rfl⟩
   have hNb : N ≤ 800000 := by
    have h3 := wputs_len l (its ns)
    rw [← g2] at h3
    omega
   have hw28 : IntKind.i64.wrap ((N : Int) * 28) = (N : Int) * 28 := IntWalk.i64_in _ (by omega)
   have hle := slen_any L ns' wr.drew (g1.sk.chg (F := []) (Chg.refl _ wr).drew (fun _ _ => by simp))
   rw [← hN] at hle
   have hst := aistore_any m 5 sz' ((N : Int) * 28) wr.drew m5 f5
   have hc5 := chg_set wr.drew ⟨m, 5, none⟩ (.int .i64 ((N : Int) * 28))
   have hm5 := hmb.drew.store 5 (.int .i64 ((N : Int) * 28))
   simp only [List.set_cons_zero, List.set_cons_succ] at hm5
   have hfin : MmPost w m L ns l (.returned (.int .i64 0)) (wr.drew.setCell ⟨m, 5, none⟩ (.int .i64 ((N : Int) * 28))) := by
    refine ⟨ns', rfl, ⟨⟨_, hm5⟩, (g1.sk.chg (F := []) (Chg.refl _ wr).drew (fun _ _ => by simp)).chg hc5 (fun g hg e => g1.out ((List.mem_singleton.1 e : g = m) ▸ hg)), g1.out⟩, g2, ?_, fun g hg => ?_⟩
    ·exact ((Chg.of_below HB1.out (m :: skF L ns)).trans (g3.drew) (fun g hg => .inl hg)).trans hc5 (fun g hg => .inl (by rw [(List.mem_singleton.1 hg : g = m)]; exact List.mem_cons_self))
    ·rcases g4 g hg with h2 | h2
     ·exact .inl h2
     ·exact .inr (Nat.le_trans HB1.out.size h2)
   have HLE := Lib.hid hle
   have HST := Lib.hid hst
   have HFIN := Lib.hid hfin
   clear hle hst hc5 hm5 hfin g1 g2 g3 g4 hmb HK hN hall
   go_wp2_with fail
   go_region_with (first
    | (go_at_call 124; refine HLE.out.mono ?_; rintro e w7 ⟨rfl, rfl⟩)
    | (go_at_call 110; refine HST.out.mono ?_; rintro e w8 ⟨rfl, rfl⟩))
   all_goals
    go_wp2
    go_ret
    exact HFIN.out
end Go.Proofs.YtpdaolongmgmgaaGreatDoor
