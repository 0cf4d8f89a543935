/-
  The walk of the law LevelTells.
-/
import Derived.Test.YtfbollkafcdfhaaLevelM
import Derived.Test.YtfbollkafcdfhaaLevelK
import Derived.Test.YtfbollkafcdfhaaLevelG
namespace Go.Proofs.Ytfbollkafcdfhaa
open Go.RowKit

theorem rtouch_at {V : World} {x y : Hv} (hx : x.ok V.heap.size V) (hy : y.ok V.heap.size V) {r : Bool} (hr : x.hd.touch y.hd = r) (w : World) (hb : Below V.heap.size V w) :
    Calls Try.prog 18 #[.agg #[.int .i64 x.hd.num, .int .i64 x.hd.level, .slice x.fa x.fn x.fc, .slice x.la x.ln x.lc, .int .i64 x.hd.len], .agg #[.int .i64 y.hd.num, .int .i64 y.hd.level, .slice y.fa y.fn y.fc, .slice y.la y.ln y.lc, .int .i64 y.hd.len]] w
      fun e w' => e = .returned (.bool r) ∧ Below V.heap.size V w' := by
  have hx' := (hx.below hb).up hb.size
  have hy' := (hy.below hb).up hb.size
  refine (rtouch_any x.hd y.hd _ _ _ _ _ _ _ _ _ _ _ _ w hx'.first hx'.last hy'.first hy'.last).mono ?_
  rintro e w1 ⟨rfl, hb1⟩
  exact ⟨by rw [hr], later_ hb hb1⟩

set_option linter.unusedSimpArgs false
set_option maxRecDepth 100000 in
set_option maxHeartbeats 8000000 in
theorem levelTells_walk (A : Option Addr) (n c : Nat) (hs : List Hv) (w : World) (hn : n ≤ 9223372036854775807) (h : Helds w.heap.size w A n hs) :
    Calls Try.prog 5 #[.slice A n c] w fun e w' => e = .returned (.bool true) ∧ Below w.heap.size w w' := by
  cases hf : few hs with
  | false =>
    have HF := Lib.hid hf
    clear hf
    go_enter Try.func5, Try.ntmps5
    go_wp2_with fail
    refine (few_any hs _ _ _ hn _ h).mono ?_
    rintro e w1 ⟨rfl, hb1⟩
    rw [HF.out]
    go_wp2_with fail
    refine (awake_any _).mono ?_
    rintro e w2 ⟨rfl, hb2⟩
    go_wp2
    go_ret
    exact ⟨rfl, later_ hb1 hb2⟩
  | true =>
    have hn50 := few_len hf
    rw [h.len] at hn50
    have HF := Lib.hid hf
    have HL := Lib.hid h.len
    clear hf
    go_enter Try.func5, Try.ntmps5
    go_wp2_with fail
    refine (few_any hs _ _ _ hn _ h).mono ?_
    rintro e w1 ⟨rfl, hb1⟩
    rw [HF.out]
    clear hn
    go_wp2_with fail
    go_loopw [3] (fun i wr => ∃ k : Nat, k ≤ n ∧ i = .int .i64 (k : Int) ∧ Below w.heap.size w wr) (fun i _ => n - (intOf i).toNat)
    case atStart => exact ⟨0, Nat.zero_le _, rfl, hb1⟩
    case round =>
      clear hb1
      obtain ⟨k, hk, rfl, hb⟩ := hrel
      by_cases hlt : k < n
      · obtain ⟨a, hl, rfl, ⟨hbk, d0, d1, d2, d3, d4⟩, hok⟩ := (h.below hb).at_ hlt
        generalize hs[k] = x at *
        rcases (by omega : x.hd.len < 0 ∨ (¬ x.hd.len < 0 ∧ 1000000 < x.hd.len) ∨ (¬ x.hd.len < 0 ∧ ¬ 1000000 < x.hd.len)) with h1 | ⟨h1, h2⟩ | ⟨h1, h2⟩
        · go_wp2_with fail
          refine (awake_any _).mono ?_
          rintro e w2 ⟨rfl, hb2⟩
          go_wp2
          go_ret
          exact ⟨rfl, later_ hb hb2⟩
        · go_wp2_with fail
          refine (awake_any _).mono ?_
          rintro e w2 ⟨rfl, hb2⟩
          go_wp2
          go_ret
          exact ⟨rfl, later_ hb hb2⟩
        · go_wp2_with fail
          go_roundw
          case rel => exact ⟨k + 1, hlt, by go_num, hb⟩
          case measure => simp [intOf]; omega
      · obtain rfl : n = k := by omega
        clear hlt hk
        go_wp2_with fail
        refine (pick_any hs A n c (by omega) _ ((h.below hb).up hb.size)).mono ?_
        rintro e w2 ⟨hp, hb2⟩
        have hz1 := later_ hb hb2
        have hpk := picks_le hs
        cases ho : overs hs 3 with
        | nil =>
          have HO := Lib.hid ho
          unfold PickOf at hp
          rw [ho] at hp
          subst hp
          clear ho hpk
          go_wp2_with fail
          refine (rpick_any hs A n c (by omega) _ ((h.below hz1).up hz1.size)).mono ?_
          rintro e w3 ⟨hp, hb3⟩
          unfold RPickOf at hp
          rw [HO.out] at hp
          subst hp
          have hz2 := later_ hz1 hb3
          have hr1 := (h.below hz2).up hz2.size
          go_wp2_with fail
          refine (same_any ([] : List Int) ([] : List Int) _ _ _ _ _ _ (by omega) _ Row.nil_ Row.nil_).mono ?_
          rintro e w5 ⟨rfl, hb5⟩
          rw [show (([] : List Int) == ([] : List Int)) = true from by simp]
          have hz5 := later_ hz2 hb5
          go_wp2_with fail
          refine (overs_any hs A n c (by omega) _ ((h.below hz5).up hz5.size).hrow).mono ?_
          rintro e w6 ⟨⟨v6, rfl, A6, c6, rfl, -, -, g6⟩, hb6⟩
          have hz6 := later_ hz5 hb6
          go_wp2_with fail
          refine (rovers_any hs A n c (by omega) _ ((h.below hz6).up hz6.size).hrow).mono ?_
          rintro e w7 ⟨⟨v7, rfl, A7, c7, rfl, -, -, g7⟩, hb7⟩
          have hz7 := later_ hz6 hb7
          have g6' := (g6.below hb7).up hb7.size
          have hol := overs_le hs 3
          go_wp2_with fail
          refine (same_any (overs hs 3) (overs hs 3) _ _ _ _ _ _ (by omega) _ g6' g7).mono ?_
          rintro e w8 ⟨rfl, hb8⟩
          rw [show (overs hs 3 == overs hs 3) = true from by simp]
          have hz8 := later_ hz7 hb8
          go_wp2_with fail
          refine (done_any hs A n c (by omega) _ ((h.below hz8).up hz8.size).hrow).mono ?_
          rintro e w9 ⟨rfl, hb9⟩
          rw [HO.out]
          have hz9 := later_ hz8 hb9
          go_wp2_with fail
          refine (rovers_any hs A n c (by omega) _ ((h.below hz9).up hz9.size).hrow).mono ?_
          rw [HO.out]
          rintro e w10 ⟨⟨v10, rfl, A10, c10, rfl, -, -, -⟩, hb10⟩
          have hz10 := later_ hz9 hb10
          clear g6 g6' g7 hb5 hb6 hb7 hb8 hb9 hb10 hz2 hz5 hz6 hz7 hz8 hz9 hr1
          obtain ⟨W, rfl⟩ : ∃ W : World, W = w10 := ⟨_, rfl⟩
          have H := (h.below hz10).up hz10.size
          go_wp2_with fail
          go_loopw [9] (fun i wr => ∃ k : Nat, k ≤ n ∧ i = .int .i64 (k : Int) ∧ Below W.heap.size W wr) (fun i _ => n - (intOf i).toNat)
          case atStart => exact ⟨0, Nat.zero_le _, rfl, Below.refl _ _⟩
          case round =>
            obtain ⟨k, hk, rfl, hb⟩ := hrel
            by_cases hlt : k < n
            · obtain ⟨a, hl, rfl, hat, hok⟩ := H.at_ hlt
              generalize hs[k] = x at *
              go_wp2_with fail
              go_loopw [10] (fun i wr => ∃ j : Nat, j ≤ n ∧ i = .int .i64 (j : Int) ∧ Below W.heap.size W wr) (fun i _ => n - (intOf i).toNat)
              case atStart => exact ⟨0, Nat.zero_le _, rfl, hb⟩
              case round =>
                clear hb
                obtain ⟨j, hj, rfl, hb⟩ := hrel
                by_cases hlt2 : j < n
                · as_aux_lemma =>
                    obtain ⟨a_, hl2, ha_, hat2, hok2⟩ := H.at_ hlt2
                    obtain rfl : a = a_ := by simpa using ha_
                    generalize hs[j] = y at *
                    have okx := (hok.below hb).up hb.size
                    have oky := (hok2.below hb).up hb.size
                    obtain ⟨hbk, d0, d1, d2, d3, d4⟩ := hat.below hb
                    obtain ⟨hbk2, e0, e1, e2, e3, e4⟩ := hat2.below hb
                    have KT := Lib.hid (touch_at okx oky rfl)
                    have KR := Lib.hid (rtouch_at okx oky rfl)
                    have hx1 : (a.add (k * 5)).block < wr.heap.size := by rw [add_block]; exact Nat.lt_of_lt_of_le hbk hb.size
                    have hx2 : (a.add (j * 5)).block < wr.heap.size := by rw [add_block]; exact Nat.lt_of_lt_of_le hbk hb.size
                    have KB := Lib.hid (fun w' (hw : Below wr.heap.size wr w') => (⟨⟨(hw.cell hx1).trans d0, (hw.cell (p := ⟨_, _, none⟩) hx1).trans d1, (hw.cell (p := ⟨_, _, none⟩) hx1).trans d2, (hw.cell (p := ⟨_, _, none⟩) hx1).trans d3, (hw.cell (p := ⟨_, _, none⟩) hx1).trans d4⟩,
                      ⟨(hw.cell hx2).trans e0, (hw.cell (p := ⟨_, _, none⟩) hx2).trans e1, (hw.cell (p := ⟨_, _, none⟩) hx2).trans e2, (hw.cell (p := ⟨_, _, none⟩) hx2).trans e3, (hw.cell (p := ⟨_, _, none⟩) hx2).trans e4⟩⟩ :
                      (w'.cell? (a.add (k * 5)) = some (.int .i64 x.hd.num) ∧ w'.cell? ⟨(a.add (k * 5)).block, (a.add (k * 5)).off + 1, none⟩ = some (.int .i64 x.hd.level) ∧ w'.cell? ⟨(a.add (k * 5)).block, (a.add (k * 5)).off + 2, none⟩ = some (.slice x.fa x.fn x.fc) ∧ w'.cell? ⟨(a.add (k * 5)).block, (a.add (k * 5)).off + 3, none⟩ = some (.slice x.la x.ln x.lc) ∧ w'.cell? ⟨(a.add (k * 5)).block, (a.add (k * 5)).off + 4, none⟩ = some (.int .i64 x.hd.len)) ∧
                      (w'.cell? (a.add (j * 5)) = some (.int .i64 y.hd.num) ∧ w'.cell? ⟨(a.add (j * 5)).block, (a.add (j * 5)).off + 1, none⟩ = some (.int .i64 y.hd.level) ∧ w'.cell? ⟨(a.add (j * 5)).block, (a.add (j * 5)).off + 2, none⟩ = some (.slice y.fa y.fn y.fc) ∧ w'.cell? ⟨(a.add (j * 5)).block, (a.add (j * 5)).off + 3, none⟩ = some (.slice y.la y.ln y.lc) ∧ w'.cell? ⟨(a.add (j * 5)).block, (a.add (j * 5)).off + 4, none⟩ = some (.int .i64 y.hd.len))))
                    have hk63 : (k : Int) < (n : Int) := by omega
                    have hj63 : (j : Int) < (n : Int) := by omega
                    generalize x.hd.touch y.hd = r at *
                    go_wp2_with fail
                    refine wp_region_held_drew (S := fun w' => Below wr.heap.size wr w') rfl (below_drew (Below.refl _ _)) (fun hSw => ?_)
                    refine wpAnyH_take (i := 0) (v := ?v0) rfl (by kernel_rfl) (by kernel_rfl) (by kernel_rfl) (fun _ _ _ h => h) (Or.inl ⟨by rfl, ?h0⟩) hSw ?k0
                    case h0 => (intro w hSw; obtain ⟨⟨x0, x1, x2, x3, x4⟩, ⟨y0, y1, y2, y3, y4⟩⟩ := KB.out w hSw; go_simp; try (with_reducible rfl))
                    go_simp
                    refine wpAnyH_take (i := 1) (v := ?v1) rfl (by kernel_rfl) (by kernel_rfl) (by kernel_rfl) (fun _ _ _ h => h) (Or.inl ⟨by rfl, ?h1⟩) hSw ?k1
                    case h1 => (intro w hSw; obtain ⟨⟨x0, x1, x2, x3, x4⟩, ⟨y0, y1, y2, y3, y4⟩⟩ := KB.out w hSw; go_simp; try (with_reducible rfl))
                    go_simp
                    refine wpAnyH_take (i := 2) (v := ?v2) rfl (by kernel_rfl) (by kernel_rfl) (by kernel_rfl) (fun _ _ _ h => h) (Or.inl ⟨by rfl, ?h2⟩) hSw ?k2
                    case h2 => (intro w hSw; obtain ⟨⟨x0, x1, x2, x3, x4⟩, ⟨y0, y1, y2, y3, y4⟩⟩ := KB.out w hSw; go_simp; try (with_reducible rfl))
                    go_simp
                    refine wpAnyH_take (i := 3) (v := ?v3) rfl (by kernel_rfl) (by kernel_rfl) (by kernel_rfl) (fun _ _ _ h => h) (Or.inl ⟨by rfl, ?h3⟩) hSw ?k3
                    case h3 => (intro w hSw; obtain ⟨⟨x0, x1, x2, x3, x4⟩, ⟨y0, y1, y2, y3, y4⟩⟩ := KB.out w hSw; go_simp; try (with_reducible rfl))
                    go_simp
                    refine wpAnyH_take (i := 4) (v := ?v4) rfl (by kernel_rfl) (by kernel_rfl) (by kernel_rfl) (fun _ _ _ h => h) (Or.inl ⟨by rfl, ?h4⟩) hSw ?k4
                    case h4 => (intro w hSw; obtain ⟨⟨x0, x1, x2, x3, x4⟩, ⟨y0, y1, y2, y3, y4⟩⟩ := KB.out w hSw; go_simp; try (with_reducible rfl))
                    go_simp
                    refine wpAnyH_take (i := 5) (v := ?v5) rfl (by kernel_rfl) (by kernel_rfl) (by kernel_rfl) (fun _ _ _ h => h) (Or.inl ⟨by rfl, ?h5⟩) hSw ?k5
                    case h5 => (intro w hSw; obtain ⟨⟨x0, x1, x2, x3, x4⟩, ⟨y0, y1, y2, y3, y4⟩⟩ := KB.out w hSw; go_simp; try (with_reducible rfl))
                    go_simp
                    refine wpAnyH_take (i := 6) (v := ?v6) rfl (by kernel_rfl) (by kernel_rfl) (by kernel_rfl) (fun _ _ _ h => h) (Or.inl ⟨by rfl, ?h6⟩) hSw ?k6
                    case h6 => (intro w hSw; obtain ⟨⟨x0, x1, x2, x3, x4⟩, ⟨y0, y1, y2, y3, y4⟩⟩ := KB.out w hSw; go_simp; try (with_reducible rfl))
                    go_simp
                    refine wpAnyH_take (i := 7) (v := ?v7) rfl (by kernel_rfl) (by kernel_rfl) (by kernel_rfl) (fun _ _ _ h => h) (Or.inl ⟨by rfl, ?h7⟩) hSw ?k7
                    case h7 => (intro w hSw; obtain ⟨⟨x0, x1, x2, x3, x4⟩, ⟨y0, y1, y2, y3, y4⟩⟩ := KB.out w hSw; go_simp; try (with_reducible rfl))
                    go_simp
                    refine wpAnyH_take (i := 9) (v := ?v9) rfl (by kernel_rfl) (by kernel_rfl) (by kernel_rfl) (fun _ _ _ h => h) (Or.inl ⟨by rfl, ?h9⟩) hSw ?k9
                    case h9 => (intro w hSw; obtain ⟨⟨x0, x1, x2, x3, x4⟩, ⟨y0, y1, y2, y3, y4⟩⟩ := KB.out w hSw; go_simp; try (with_reducible rfl))
                    go_simp
                    refine wpAnyH_take (i := 10) (v := ?v10) rfl (by kernel_rfl) (by kernel_rfl) (by kernel_rfl) (fun _ _ _ h => h) (Or.inl ⟨by rfl, ?h10⟩) hSw ?k10
                    case h10 => (intro w hSw; obtain ⟨⟨x0, x1, x2, x3, x4⟩, ⟨y0, y1, y2, y3, y4⟩⟩ := KB.out w hSw; go_simp; try (with_reducible rfl))
                    go_simp
                    refine wpAnyH_take (i := 11) (v := ?v11) rfl (by kernel_rfl) (by kernel_rfl) (by kernel_rfl) (fun _ _ _ h => h) (Or.inl ⟨by rfl, ?h11⟩) hSw ?k11
                    case h11 => (intro w hSw; obtain ⟨⟨x0, x1, x2, x3, x4⟩, ⟨y0, y1, y2, y3, y4⟩⟩ := KB.out w hSw; go_simp; try (with_reducible rfl))
                    go_simp
                    refine wpAnyH_take (i := 12) (v := ?v12) rfl (by kernel_rfl) (by kernel_rfl) (by kernel_rfl) (fun _ _ _ h => h) (Or.inl ⟨by rfl, ?h12⟩) hSw ?k12
                    case h12 => (intro w hSw; obtain ⟨⟨x0, x1, x2, x3, x4⟩, ⟨y0, y1, y2, y3, y4⟩⟩ := KB.out w hSw; go_simp; try (with_reducible rfl))
                    go_simp
                    refine wpAnyH_take (i := 13) (v := ?v13) rfl (by kernel_rfl) (by kernel_rfl) (by kernel_rfl) (fun _ _ _ h => h) (Or.inl ⟨by rfl, ?h13⟩) hSw ?k13
                    case h13 => (intro w hSw; obtain ⟨⟨x0, x1, x2, x3, x4⟩, ⟨y0, y1, y2, y3, y4⟩⟩ := KB.out w hSw; go_simp; try (with_reducible rfl))
                    go_simp
                    refine wpAnyH_take (i := 14) (v := ?v14) rfl (by kernel_rfl) (by kernel_rfl) (by kernel_rfl) (fun _ _ _ h => h) (Or.inl ⟨by rfl, ?h14⟩) hSw ?k14
                    case h14 => (intro w hSw; obtain ⟨⟨x0, x1, x2, x3, x4⟩, ⟨y0, y1, y2, y3, y4⟩⟩ := KB.out w hSw; go_simp; try (with_reducible rfl))
                    go_simp
                    refine wpAnyH_take (i := 15) (v := ?v15) rfl (by kernel_rfl) (by kernel_rfl) (by kernel_rfl) (fun _ _ _ h => h) (Or.inl ⟨by rfl, ?h15⟩) hSw ?k15
                    case h15 => (intro w hSw; obtain ⟨⟨x0, x1, x2, x3, x4⟩, ⟨y0, y1, y2, y3, y4⟩⟩ := KB.out w hSw; go_simp; try (with_reducible rfl))
                    go_simp
                    refine wpAnyH_take (i := 16) (v := ?v16) rfl (by kernel_rfl) (by kernel_rfl) (by kernel_rfl) (fun _ _ _ h => h) (Or.inl ⟨by rfl, ?h16⟩) hSw ?k16
                    case h16 => (intro w hSw; obtain ⟨⟨x0, x1, x2, x3, x4⟩, ⟨y0, y1, y2, y3, y4⟩⟩ := KB.out w hSw; go_simp; try (with_reducible rfl))
                    go_simp
                    refine wpAnyH_ready (rs := [8]) (by kernel_rfl) (by simp) ?_
                    refine AllReadyH.cons rfl (fun K hK => ?_) AllReadyH.nil
                    go_simp
                    first | ((with_reducible refine (KT.out _ hSw).mono ?_); rintro e w8 ⟨rfl, hSw8⟩)
                    go_simp
                    refine hK.out _ _ hSw8 (fun _ => ?_)
                    clear hK K hSw
                    have hSw := hSw8
                    clear hSw8
                    go_simp
                    refine wpAnyH_ready (rs := [17]) (by kernel_rfl) (by simp) ?_
                    refine AllReadyH.cons rfl (fun K hK => ?_) AllReadyH.nil
                    go_simp
                    first | ((with_reducible refine (KR.out _ hSw).mono ?_); rintro e w17 ⟨rfl, hSw17⟩)
                    go_simp
                    refine hK.out _ _ hSw17 (fun _ => ?_)
                    clear hK K hSw
                    have hSw := hSw17
                    clear hSw17
                    go_simp
                    refine wpAnyH_take (i := 18) (v := ?v18) rfl (by kernel_rfl) (by kernel_rfl) (by kernel_rfl) (fun _ _ _ h => h) (Or.inl ⟨by rfl, ?h18⟩) hSw ?k18
                    case h18 => (intro w hSw; obtain ⟨⟨x0, x1, x2, x3, x4⟩, ⟨y0, y1, y2, y3, y4⟩⟩ := KB.out w hSw; go_simp; try (with_reducible rfl))
                    go_simp
                    refine wpAnyH_done (by kernel_rfl) ?_ _
                    go_wp2
                    go_roundw
                    case rel => exact ⟨j + 1, hlt2, by go_num, later_ hb hSw⟩
                    case measure => simp [intOf]; omega
                · obtain rfl : n = j := by omega
                  go_wp2_with fail
                  go_roundw
                  case rel => exact ⟨k + 1, hlt, by go_num, hb⟩
                  case measure => simp [intOf]; omega
            · obtain rfl : n = k := by omega
              go_wp2_with fail
              refine (awake_any _).mono ?_
              rintro e w11 ⟨rfl, hb11⟩
              go_wp2
              go_ret
              exact ⟨rfl, later_ (later_ hz10 hb) hb11⟩
        | cons lv rest =>
          obtain ⟨hlv0, hlv2, hov⟩ := overs_mem ho
          have HO := Lib.hid ho
          unfold PickOf at hp
          rw [ho] at hp
          obtain ⟨v, rfl, A2, c2, rfl, hlc2, -, hg2⟩ := hp
          have hpl := hpk lv hs.length
          rw [HL.out] at hpl hlc2 hg2 ⊢
          clear ho hpk hov
          go_wp2_with fail
          refine (rpick_any hs A n c (by omega) _ ((h.below hz1).up hz1.size)).mono ?_
          rintro e w3 ⟨hp, hb3⟩
          unfold RPickOf at hp
          rw [HO.out] at hp
          obtain ⟨v, rfl, A3, c3, rfl, hlc3, -, hg3⟩ := hp
          rw [HL.out] at hlc3 hg3 ⊢
          have hg2' := (hg2.below hb3).up hb3.size
          have hz2 := later_ hz1 hb3
          have b1 : (lv + 1 == lv + 1) = true := by simp
          have b2 : decide (0 ≤ lv + 1) = true := decide_eq_true (by omega)
          have t0 : ((rest.length : Int) + 1 == 0) = false := beq_eq_false_iff_ne.2 (by omega)
          have hr1 := (h.below hz2).up hz2.size
          go_wp2_with fail
          refine (same_any (picks hs lv n) (picks hs lv n) _ _ _ _ _ _ (by omega) _ hg2' hg3).mono ?_
          rintro e w5 ⟨rfl, hb5⟩
          rw [show ((picks hs lv n) == (picks hs lv n)) = true from by simp]
          have hz5 := later_ hz2 hb5
          go_wp2_with fail
          refine (overs_any hs A n c (by omega) _ ((h.below hz5).up hz5.size).hrow).mono ?_
          rintro e w6 ⟨⟨v6, rfl, A6, c6, rfl, -, -, g6⟩, hb6⟩
          have hz6 := later_ hz5 hb6
          go_wp2_with fail
          refine (rovers_any hs A n c (by omega) _ ((h.below hz6).up hz6.size).hrow).mono ?_
          rintro e w7 ⟨⟨v7, rfl, A7, c7, rfl, -, -, g7⟩, hb7⟩
          have hz7 := later_ hz6 hb7
          have g6' := (g6.below hb7).up hb7.size
          have hol := overs_le hs 3
          go_wp2_with fail
          refine (same_any (overs hs 3) (overs hs 3) _ _ _ _ _ _ (by omega) _ g6' g7).mono ?_
          rintro e w8 ⟨rfl, hb8⟩
          rw [show (overs hs 3 == overs hs 3) = true from by simp]
          have hz8 := later_ hz7 hb8
          go_wp2_with fail
          refine (done_any hs A n c (by omega) _ ((h.below hz8).up hz8.size).hrow).mono ?_
          rintro e w9 ⟨rfl, hb9⟩
          rw [HO.out]
          have hz9 := later_ hz8 hb9
          go_wp2_with fail
          refine (rovers_any hs A n c (by omega) _ ((h.below hz9).up hz9.size).hrow).mono ?_
          rw [HO.out]
          rintro e w10 ⟨⟨v10, rfl, A10, c10, rfl, -, -, -⟩, hb10⟩
          have hz10 := later_ hz9 hb10
          clear g6 g6' g7 hb5 hb6 hb7 hb8 hb9 hb10 hz2 hz5 hz6 hz7 hz8 hz9 hr1
          obtain ⟨W, rfl⟩ : ∃ W : World, W = w10 := ⟨_, rfl⟩
          have H := (h.below hz10).up hz10.size
          go_wp2_with fail
          go_loopw [9] (fun i wr => ∃ k : Nat, k ≤ n ∧ i = .int .i64 (k : Int) ∧ Below W.heap.size W wr) (fun i _ => n - (intOf i).toNat)
          case atStart => exact ⟨0, Nat.zero_le _, rfl, Below.refl _ _⟩
          case round =>
            obtain ⟨k, hk, rfl, hb⟩ := hrel
            by_cases hlt : k < n
            · obtain ⟨a, hl, rfl, hat, hok⟩ := H.at_ hlt
              generalize hs[k] = x at *
              go_wp2_with fail
              go_loopw [10] (fun i wr => ∃ j : Nat, j ≤ n ∧ i = .int .i64 (j : Int) ∧ Below W.heap.size W wr) (fun i _ => n - (intOf i).toNat)
              case atStart => exact ⟨0, Nat.zero_le _, rfl, hb⟩
              case round =>
                clear hb
                obtain ⟨j, hj, rfl, hb⟩ := hrel
                by_cases hlt2 : j < n
                · as_aux_lemma =>
                    obtain ⟨a_, hl2, ha_, hat2, hok2⟩ := H.at_ hlt2
                    obtain rfl : a = a_ := by simpa using ha_
                    generalize hs[j] = y at *
                    have okx := (hok.below hb).up hb.size
                    have oky := (hok2.below hb).up hb.size
                    obtain ⟨hbk, d0, d1, d2, d3, d4⟩ := hat.below hb
                    obtain ⟨hbk2, e0, e1, e2, e3, e4⟩ := hat2.below hb
                    have KT := Lib.hid (touch_at okx oky rfl)
                    have KR := Lib.hid (rtouch_at okx oky rfl)
                    have hx1 : (a.add (k * 5)).block < wr.heap.size := by rw [add_block]; exact Nat.lt_of_lt_of_le hbk hb.size
                    have hx2 : (a.add (j * 5)).block < wr.heap.size := by rw [add_block]; exact Nat.lt_of_lt_of_le hbk hb.size
                    have KB := Lib.hid (fun w' (hw : Below wr.heap.size wr w') => (⟨⟨(hw.cell hx1).trans d0, (hw.cell (p := ⟨_, _, none⟩) hx1).trans d1, (hw.cell (p := ⟨_, _, none⟩) hx1).trans d2, (hw.cell (p := ⟨_, _, none⟩) hx1).trans d3, (hw.cell (p := ⟨_, _, none⟩) hx1).trans d4⟩,
                      ⟨(hw.cell hx2).trans e0, (hw.cell (p := ⟨_, _, none⟩) hx2).trans e1, (hw.cell (p := ⟨_, _, none⟩) hx2).trans e2, (hw.cell (p := ⟨_, _, none⟩) hx2).trans e3, (hw.cell (p := ⟨_, _, none⟩) hx2).trans e4⟩⟩ :
                      (w'.cell? (a.add (k * 5)) = some (.int .i64 x.hd.num) ∧ w'.cell? ⟨(a.add (k * 5)).block, (a.add (k * 5)).off + 1, none⟩ = some (.int .i64 x.hd.level) ∧ w'.cell? ⟨(a.add (k * 5)).block, (a.add (k * 5)).off + 2, none⟩ = some (.slice x.fa x.fn x.fc) ∧ w'.cell? ⟨(a.add (k * 5)).block, (a.add (k * 5)).off + 3, none⟩ = some (.slice x.la x.ln x.lc) ∧ w'.cell? ⟨(a.add (k * 5)).block, (a.add (k * 5)).off + 4, none⟩ = some (.int .i64 x.hd.len)) ∧
                      (w'.cell? (a.add (j * 5)) = some (.int .i64 y.hd.num) ∧ w'.cell? ⟨(a.add (j * 5)).block, (a.add (j * 5)).off + 1, none⟩ = some (.int .i64 y.hd.level) ∧ w'.cell? ⟨(a.add (j * 5)).block, (a.add (j * 5)).off + 2, none⟩ = some (.slice y.fa y.fn y.fc) ∧ w'.cell? ⟨(a.add (j * 5)).block, (a.add (j * 5)).off + 3, none⟩ = some (.slice y.la y.ln y.lc) ∧ w'.cell? ⟨(a.add (j * 5)).block, (a.add (j * 5)).off + 4, none⟩ = some (.int .i64 y.hd.len))))
                    have hk63 : (k : Int) < (n : Int) := by omega
                    have hj63 : (j : Int) < (n : Int) := by omega
                    generalize x.hd.touch y.hd = r at *
                    go_wp2_with fail
                    refine wp_region_held_drew (S := fun w' => Below wr.heap.size wr w') rfl (below_drew (Below.refl _ _)) (fun hSw => ?_)
                    refine wpAnyH_take (i := 0) (v := ?vb0) rfl (by kernel_rfl) (by kernel_rfl) (by kernel_rfl) (fun _ _ _ h => h) (Or.inl ⟨by rfl, ?hb0⟩) hSw ?kb0
                    case hb0 => (intro w hSw; obtain ⟨⟨x0, x1, x2, x3, x4⟩, ⟨y0, y1, y2, y3, y4⟩⟩ := KB.out w hSw; go_simp; try (with_reducible rfl))
                    go_simp
                    refine wpAnyH_take (i := 1) (v := ?vb1) rfl (by kernel_rfl) (by kernel_rfl) (by kernel_rfl) (fun _ _ _ h => h) (Or.inl ⟨by rfl, ?hb1⟩) hSw ?kb1
                    case hb1 => (intro w hSw; obtain ⟨⟨x0, x1, x2, x3, x4⟩, ⟨y0, y1, y2, y3, y4⟩⟩ := KB.out w hSw; go_simp; try (with_reducible rfl))
                    go_simp
                    refine wpAnyH_take (i := 2) (v := ?vb2) rfl (by kernel_rfl) (by kernel_rfl) (by kernel_rfl) (fun _ _ _ h => h) (Or.inl ⟨by rfl, ?hb2⟩) hSw ?kb2
                    case hb2 => (intro w hSw; obtain ⟨⟨x0, x1, x2, x3, x4⟩, ⟨y0, y1, y2, y3, y4⟩⟩ := KB.out w hSw; go_simp; try (with_reducible rfl))
                    go_simp
                    refine wpAnyH_take (i := 3) (v := ?vb3) rfl (by kernel_rfl) (by kernel_rfl) (by kernel_rfl) (fun _ _ _ h => h) (Or.inl ⟨by rfl, ?hb3⟩) hSw ?kb3
                    case hb3 => (intro w hSw; obtain ⟨⟨x0, x1, x2, x3, x4⟩, ⟨y0, y1, y2, y3, y4⟩⟩ := KB.out w hSw; go_simp; try (with_reducible rfl))
                    go_simp
                    refine wpAnyH_take (i := 4) (v := ?vb4) rfl (by kernel_rfl) (by kernel_rfl) (by kernel_rfl) (fun _ _ _ h => h) (Or.inl ⟨by rfl, ?hb4⟩) hSw ?kb4
                    case hb4 => (intro w hSw; obtain ⟨⟨x0, x1, x2, x3, x4⟩, ⟨y0, y1, y2, y3, y4⟩⟩ := KB.out w hSw; go_simp; try (with_reducible rfl))
                    go_simp
                    refine wpAnyH_take (i := 5) (v := ?vb5) rfl (by kernel_rfl) (by kernel_rfl) (by kernel_rfl) (fun _ _ _ h => h) (Or.inl ⟨by rfl, ?hb5⟩) hSw ?kb5
                    case hb5 => (intro w hSw; obtain ⟨⟨x0, x1, x2, x3, x4⟩, ⟨y0, y1, y2, y3, y4⟩⟩ := KB.out w hSw; go_simp; try (with_reducible rfl))
                    go_simp
                    refine wpAnyH_take (i := 6) (v := ?vb6) rfl (by kernel_rfl) (by kernel_rfl) (by kernel_rfl) (fun _ _ _ h => h) (Or.inl ⟨by rfl, ?hb6⟩) hSw ?kb6
                    case hb6 => (intro w hSw; obtain ⟨⟨x0, x1, x2, x3, x4⟩, ⟨y0, y1, y2, y3, y4⟩⟩ := KB.out w hSw; go_simp; try (with_reducible rfl))
                    go_simp
                    refine wpAnyH_take (i := 7) (v := ?vb7) rfl (by kernel_rfl) (by kernel_rfl) (by kernel_rfl) (fun _ _ _ h => h) (Or.inl ⟨by rfl, ?hb7⟩) hSw ?kb7
                    case hb7 => (intro w hSw; obtain ⟨⟨x0, x1, x2, x3, x4⟩, ⟨y0, y1, y2, y3, y4⟩⟩ := KB.out w hSw; go_simp; try (with_reducible rfl))
                    go_simp
                    refine wpAnyH_take (i := 9) (v := ?vb9) rfl (by kernel_rfl) (by kernel_rfl) (by kernel_rfl) (fun _ _ _ h => h) (Or.inl ⟨by rfl, ?hb9⟩) hSw ?kb9
                    case hb9 => (intro w hSw; obtain ⟨⟨x0, x1, x2, x3, x4⟩, ⟨y0, y1, y2, y3, y4⟩⟩ := KB.out w hSw; go_simp; try (with_reducible rfl))
                    go_simp
                    refine wpAnyH_take (i := 10) (v := ?vb10) rfl (by kernel_rfl) (by kernel_rfl) (by kernel_rfl) (fun _ _ _ h => h) (Or.inl ⟨by rfl, ?hb10⟩) hSw ?kb10
                    case hb10 => (intro w hSw; obtain ⟨⟨x0, x1, x2, x3, x4⟩, ⟨y0, y1, y2, y3, y4⟩⟩ := KB.out w hSw; go_simp; try (with_reducible rfl))
                    go_simp
                    refine wpAnyH_take (i := 11) (v := ?vb11) rfl (by kernel_rfl) (by kernel_rfl) (by kernel_rfl) (fun _ _ _ h => h) (Or.inl ⟨by rfl, ?hb11⟩) hSw ?kb11
                    case hb11 => (intro w hSw; obtain ⟨⟨x0, x1, x2, x3, x4⟩, ⟨y0, y1, y2, y3, y4⟩⟩ := KB.out w hSw; go_simp; try (with_reducible rfl))
                    go_simp
                    refine wpAnyH_take (i := 12) (v := ?vb12) rfl (by kernel_rfl) (by kernel_rfl) (by kernel_rfl) (fun _ _ _ h => h) (Or.inl ⟨by rfl, ?hb12⟩) hSw ?kb12
                    case hb12 => (intro w hSw; obtain ⟨⟨x0, x1, x2, x3, x4⟩, ⟨y0, y1, y2, y3, y4⟩⟩ := KB.out w hSw; go_simp; try (with_reducible rfl))
                    go_simp
                    refine wpAnyH_take (i := 13) (v := ?vb13) rfl (by kernel_rfl) (by kernel_rfl) (by kernel_rfl) (fun _ _ _ h => h) (Or.inl ⟨by rfl, ?hb13⟩) hSw ?kb13
                    case hb13 => (intro w hSw; obtain ⟨⟨x0, x1, x2, x3, x4⟩, ⟨y0, y1, y2, y3, y4⟩⟩ := KB.out w hSw; go_simp; try (with_reducible rfl))
                    go_simp
                    refine wpAnyH_take (i := 14) (v := ?vb14) rfl (by kernel_rfl) (by kernel_rfl) (by kernel_rfl) (fun _ _ _ h => h) (Or.inl ⟨by rfl, ?hb14⟩) hSw ?kb14
                    case hb14 => (intro w hSw; obtain ⟨⟨x0, x1, x2, x3, x4⟩, ⟨y0, y1, y2, y3, y4⟩⟩ := KB.out w hSw; go_simp; try (with_reducible rfl))
                    go_simp
                    refine wpAnyH_take (i := 15) (v := ?vb15) rfl (by kernel_rfl) (by kernel_rfl) (by kernel_rfl) (fun _ _ _ h => h) (Or.inl ⟨by rfl, ?hb15⟩) hSw ?kb15
                    case hb15 => (intro w hSw; obtain ⟨⟨x0, x1, x2, x3, x4⟩, ⟨y0, y1, y2, y3, y4⟩⟩ := KB.out w hSw; go_simp; try (with_reducible rfl))
                    go_simp
                    refine wpAnyH_take (i := 16) (v := ?vb16) rfl (by kernel_rfl) (by kernel_rfl) (by kernel_rfl) (fun _ _ _ h => h) (Or.inl ⟨by rfl, ?hb16⟩) hSw ?kb16
                    case hb16 => (intro w hSw; obtain ⟨⟨x0, x1, x2, x3, x4⟩, ⟨y0, y1, y2, y3, y4⟩⟩ := KB.out w hSw; go_simp; try (with_reducible rfl))
                    go_simp
                    refine wpAnyH_ready (rs := [8]) (by kernel_rfl) (by simp) ?_
                    refine AllReadyH.cons rfl (fun K hK => ?_) AllReadyH.nil
                    go_simp
                    first | ((with_reducible refine (KT.out _ hSw).mono ?_); rintro e w8 ⟨rfl, hSw8⟩)
                    go_simp
                    refine hK.out _ _ hSw8 (fun _ => ?_)
                    clear hK K hSw
                    have hSw := hSw8
                    clear hSw8
                    go_simp
                    refine wpAnyH_ready (rs := [17]) (by kernel_rfl) (by simp) ?_
                    refine AllReadyH.cons rfl (fun K hK => ?_) AllReadyH.nil
                    go_simp
                    first | ((with_reducible refine (KR.out _ hSw).mono ?_); rintro e w17 ⟨rfl, hSw17⟩)
                    go_simp
                    refine hK.out _ _ hSw17 (fun _ => ?_)
                    clear hK K hSw
                    have hSw := hSw17
                    clear hSw17
                    go_simp
                    refine wpAnyH_take (i := 18) (v := ?vb18) rfl (by kernel_rfl) (by kernel_rfl) (by kernel_rfl) (fun _ _ _ h => h) (Or.inl ⟨by rfl, ?hb18⟩) hSw ?kb18
                    case hb18 => (intro w hSw; obtain ⟨⟨x0, x1, x2, x3, x4⟩, ⟨y0, y1, y2, y3, y4⟩⟩ := KB.out w hSw; go_simp; try (with_reducible rfl))
                    go_simp
                    refine wpAnyH_done (by kernel_rfl) ?_ _
                    go_wp2
                    go_roundw
                    case rel => exact ⟨j + 1, hlt2, by go_num, later_ hb hSw⟩
                    case measure => simp [intOf]; omega
                · obtain rfl : n = j := by omega
                  go_wp2_with fail
                  go_roundw
                  case rel => exact ⟨k + 1, hlt, by go_num, hb⟩
                  case measure => simp [intOf]; omega
            · obtain rfl : n = k := by omega
              go_wp2_with fail
              refine (awake_any _).mono ?_
              rintro e w11 ⟨rfl, hb11⟩
              go_wp2
              go_ret
              exact ⟨rfl, later_ (later_ hz10 hb) hb11⟩
end Go.Proofs.Ytfbollkafcdfhaa
