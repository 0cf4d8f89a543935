/-
  The walk of the law SumTells: it answers true, and changes nothing that was there.
-/
import Derived.Test.YtmfobogicdeokaaRefSum
import Derived.Deep.LoopGhost
import Derived.Deep.DeepCutAuto
namespace Go.Proofs.Ytmfobogicdeokaa
open Go.RowKit

theorem Rows2.up {B B' : Nat} {w : World} {P : Option Addr} {n : Nat} {ls : List (List UInt8)} (h : Rows2 B w P n ls) (hb : B ≤ B') : Rows2 B' w P n ls := by
  obtain ⟨vs, hr, hl, hf⟩ := h
  exact ⟨vs, hr.up hb, hl, fun i hi => let ⟨A, k, c, h1, h2, h3, h4⟩ := hf i hi; ⟨A, k, c, h1, h2, h3, h4.up hb⟩⟩
theorem row_at {n size : Nat} {V W : World} {A : Option Addr} {xs : List Value} (h : Row V.heap.size V A n size xs) (hb : Below V.heap.size V W) : Row W.heap.size W A n size xs := (h.below hb).up hb.size
theorem flat_len (ls : List (List UInt8)) (i : Nat) (h : i < ls.length) : (ls.take (i + 1)).flatten = (ls.take i).flatten ++ ls[i] := by
  rw [List.take_succ_eq_append_getElem h, List.flatten_append]
  simp

set_option maxRecDepth 100000 in
set_option maxHeartbeats 4000000 in
theorem sumTells_walk (A : Option Addr) (n c : Nat) (l : List UInt8) (P : Option Addr) (m d : Nat) (ls : List (List UInt8)) (x y : BitVec 64) (w : World) (hn : n ≤ c) (hm : c ≤ maxLen) (hr : Row w.heap.size w A n 1 (bts l)) (hp : Rows2 w.heap.size w P m ls) (hmd : m ≤ 9223372036854775807) :
    Calls Try.prog 14 #[.slice A n c, .slice P m d, .int .u64 (x.toNat : Int), .int .u64 (y.toNat : Int)] w fun e w' => e = .returned (.bool true) ∧ Below w.heap.size w w' := by
  have hm' : c ≤ 9223372036854775807 := hm
  have hll := hr.btlen
  have hpl : ls.length = m := by obtain ⟨_, _, h, _⟩ := hp; exact h
  rcases (by omega : 5000 < n ∨ (n ≤ 5000 ∧ 50 < m) ∨ (n ≤ 5000 ∧ m ≤ 50)) with h1 | ⟨h1, h2⟩ | ⟨h1, h2⟩
  · go_enter Try.func14, Try.ntmps14
    go_wp2_with (go_at_call 15; refine (awake_any _).mono ?_; rintro e w' ⟨rfl, hb⟩)
    go_ret
    exact ⟨rfl, hb⟩
  · go_enter Try.func14, Try.ntmps14
    go_wp2_with (go_at_call 15; refine (awake_any _).mono ?_; rintro e w' ⟨rfl, hb⟩)
    go_ret
    exact ⟨rfl, hb⟩
  · go_enter Try.func14, Try.ntmps14
    go_wp2
    go_loop [9, 10] (fun s i => ∃ k : Nat, s = str (ls.take k).flatten ∧ i = .int .i64 k ∧ k ≤ m ∧ (ls.take k).flatten.length ≤ 200 * k) (fun _ i => m - (intOf i).toNat)
    case atStart => exact ⟨0, rfl, rfl, by omega, by simp⟩
    case round =>
      obtain ⟨k, rfl, rfl, hk, hkl⟩ := hrel
      by_cases hlt : k < m
      · obtain ⟨a, A1, k1, c1, hl1, rfl, -, hc1, hkc1, hcm1, hr1⟩ := hp.at_ hlt
        have hcm1' : c1 ≤ 9223372036854775807 := hcm1
        have hl1' := hr1.btlen
        by_cases hbig : 200 < k1
        · go_wp2_with (go_at_call 15; refine (awake_any _).mono ?_; rintro e w' ⟨rfl, hb⟩)
          go_ret
          exact ⟨rfl, hb⟩
        · have hcv := conv_b hr1 c1
          have hfl : (ls.take (k + 1)).flatten.length ≤ 200 * (k + 1) := by rw [flat_len ls k hl1, List.length_append]; omega
          have hff := flat_len ls k hl1
          generalize (ls.take k).flatten = F at hff hkl ⊢
          have HF := Lib.hid hff
          have HFL := Lib.hid hfl
          clear hff hfl
          have hs : ¬ 9223372036854775807 < F.length + ls[k].length := by omega
          go_wp2
          go_round
          case rel => exact ⟨k + 1, congrArg Value.string (by rw [HF.out, str_add]), by go_num, by omega, HFL.out⟩
          case measure => simp [intOf]; omega
      · obtain rfl : k = m := by omega
        rw [List.take_of_length_le (by omega)] at hkl ⊢
        have hcv := conv_b hr c
        go_upto_region 11 with (fail)
        clear hcv
        obtain ⟨F, hF⟩ : ∃ F, ls.flatten = F := ⟨_, rfl⟩
        rw [hF] at hkl ⊢
        have HF := Lib.hid hF
        clear hF
        go_cut [12, 13] (fun s12 s13 wx => ∃ Ao no co lo, ∃ e : Int, s12 = .slice Ao no co ∧ s13 = .int .i64 e ∧ Row wx.heap.size wx Ao no 1 (bts lo) ∧ Hid ((n < 4 ∧ lo = [] ∧ e = 4) ∨ (4 ≤ n ∧ (Crc.sealed (l.take (n - 4)) == l) = true ∧ lo = l.take (n - 4) ∧ e = 0) ∨ (4 ≤ n ∧ (Crc.sealed (l.take (n - 4)) == l) = false ∧ lo = [] ∧ e = 5)) ∧ Below w.heap.size w wx)
        case first =>
          by_cases h4 : n < 4
          · go_wp2_with fail
            refine (open_torn A n c w h4).mono ?_
            rintro e w1 ⟨rfl, rfl⟩
            go_wp2_with fail
            go_meet
            case rel => exact ⟨none, 0, 0, [], 4, rfl, rfl, Row.nil_, Lib.hid (.inl ⟨h4, rfl, rfl⟩), Below.refl _ _⟩
          · cases hq : (Crc.sealed (l.take (n - 4)) == l)
            · go_wp2_with fail
              refine (open_bad A n c l w hn hm (by omega) (by omega) hr hq).mono ?_
              rintro e w1 ⟨rfl, hb1⟩
              have HQ := Lib.hid hq
              clear hq
              go_wp2_with fail
              go_meet
              case rel => exact ⟨none, 0, 0, [], 5, rfl, rfl, Row.nil_, Lib.hid (.inr (.inr ⟨by omega, HQ.out, rfl, rfl⟩)), hb1⟩
            · go_wp2_with fail
              refine (open_good A n c l w hn hm (by omega) (by omega) hr hq).mono ?_
              rintro e w1 ⟨A1, c1, rfl, ho1, hc1, hm1, hb1⟩
              have HQ := Lib.hid hq
              clear hq
              go_wp2_with fail
              go_meet
              case rel => exact ⟨A1, n - 4, c1, l.take (n - 4), 0, rfl, rfl, Row.own ho1, Lib.hid (.inr (.inl ⟨by omega, HQ.out, rfl, rfl⟩)), hb1⟩
        case rest =>
          obtain ⟨Ao, no, co, lo, e, rfl, rfl, hro, HO, hb⟩ := hcut
          rename World => V1
          have hr0 : Row V1.heap.size V1 A n 1 (bts l) := (hr.below hb).up hb.size
          have hp0 : Rows2 V1.heap.size V1 P k ls := (hp.below hb).up hb.size
          clear hr hp
          go_upto_region 12 with (fail)
          go_cut [14, 15] (fun s14 s15 wy => s14 = str lo ∧ s15 = .int .i64 e ∧ Below V1.heap.size V1 wy)
          case first =>
            rcases HO.out with ⟨o1, o2, o3⟩ | ⟨o1, o2, o3, o4⟩ | ⟨o1, o2, o3, o4⟩
            · clear HO
              subst o2 o3
              go_wp2_with fail
              refine (ropen_torn l V1 (by omega)).mono ?_
              rintro e w1 ⟨rfl, rfl⟩
              go_wp2_with fail
              go_meet
              case rel => exact ⟨rfl, rfl, Below.refl _ _⟩
            · clear HO
              rw [← hll] at o2 o3 o1
              have HO3 := Lib.hid o3
              subst o4
              clear o3
              go_wp2_with fail
              refine (ropen_good l V1 o1 (by omega) o2).mono ?_
              rintro e w1 ⟨rfl, hb1⟩
              clear o2
              go_wp2_with fail
              go_meet
              case rel => exact ⟨by rw [HO3.out, hll], rfl, hb1⟩
            · clear HO
              rw [← hll] at o2 o1
              subst o4 o3
              go_wp2_with fail
              refine (ropen_bad l V1 o1 (by omega) o2).mono ?_
              rintro e w1 ⟨rfl, hb1⟩
              clear o2
              go_wp2_with fail
              go_meet
              case rel => exact ⟨rfl, rfl, hb1⟩
          case rest =>
            obtain ⟨rfl, rfl, hb1⟩ := hcut
            clear HO
            go_wp2_with fail
            refine (seal_any A n c l _ hn hm (by omega) ((hr0.below hb1).up hb1.size)).mono ?_
            rintro e2 w2 ⟨A2, c2, rfl, ho2, hc2, hm2, hb2⟩
            have hb2' := hb1.trans (hb2.mono hb1.size)
            go_wp2_with fail
            have hq : (Crc.sealed ((Crc.sealed l).take (n + 4 - 4)) == Crc.sealed l) = true := by rw [Nat.add_sub_cancel, ← hll, Crc.sealed_take]; simp
            refine (open_good A2 (n + 4) c2 (Crc.sealed l) _ hc2 hm2 (by omega) (by omega) (Row.own ho2) hq).mono ?_
            rintro e3 w3 ⟨A3, c3, rfl, ho3, hc3, hm3, hb3⟩
            have hr3 := Row.own ho3
            rw [Nat.add_sub_cancel, ← hll, Crc.sealed_take, hll] at hr3
            simp only [Nat.add_sub_cancel]
            have hb3' := hb2'.trans (hb3.mono hb2'.size)
            have hr0' : Row w3.heap.size w3 A n 1 (bts l) := (hr0.below hb3').up hb3'.size
            have hp0' : Rows2 w3.heap.size w3 P k ls := (hp0.below hb3').up hb3'.size
            have hro' : Row w3.heap.size w3 Ao no 1 (bts lo) := (hro.below hb3').up hb3'.size
            have hbV := hb.trans (hb3'.mono hb.size)
            clear hq ho2 hc2 hm2 hb2 hb2' ho3 hc3 hm3 hb3 hb3' hb1 hb hro hr0 hp0
            go_upto_region 14 with (fail)
            go_cut [8] (fun s8 wy => s8 = .bool true ∧ Below w3.heap.size w3 wy)
            case first =>
              refine wp_region_any (by kernel_rfl) ?_
              change wpAny _ _ _ _ _ _ _ (World.drew _)
              have g0 : Below w3.heap.size w3 w3.drew := (Below.refl _ _).drew
              refine wpAny_take (i := 0) (v := ?v0) rfl (by kernel_rfl) (by kernel_rfl) (by kernel_rfl) (fun _ _ _ h => h) (Or.inl ⟨by rfl, ?h0⟩) ?k0
              case h0 => (intro w; go_simp; try (with_reducible rfl))
              go_simp
              refine wpAny_take (i := 2) (v := ?v2) rfl (by kernel_rfl) (by kernel_rfl) (by kernel_rfl) (fun _ _ _ h => h) (Or.inl ⟨by rfl, ?h2⟩) ?k2
              case h2 => (intro w; go_simp; try (with_reducible rfl))
              go_simp
              refine wpAny_ready (rs := [1]) (by kernel_rfl) (by simp) ?_
              refine AllReady.cons rfl (fun K hK => ?_) AllReady.nil
              go_simp
              go_at_call 18
              refine (of_any A n c l _ hn hm (row_at hr0' g0)).mono ?_
              rintro e W1 ⟨rfl, f1⟩
              have g1 := g0.trans (f1.mono g0.size)
              refine hK _ _ ?_
              clear hK K
              refine wpAny_ready (rs := [3]) (by kernel_rfl) (by simp) ?_
              refine AllReady.cons rfl (fun K hK => ?_) AllReady.nil
              go_simp
              go_at_call 31
              refine (rsum_any l _ (by omega)).mono ?_
              rintro e _ ⟨rfl, rfl⟩
              refine hK _ _ ?_
              clear hK K
              refine wpAny_take (i := 4) (v := ?v4) rfl (by kernel_rfl) (by kernel_rfl) (by kernel_rfl) (fun _ _ _ h => h) (Or.inl ⟨by rfl, ?h4⟩) ?k4
              case h4 => (intro w; go_simp; try (with_reducible rfl))
              go_simp
              refine wpAny_take (i := 5) (v := ?v5) rfl (by kernel_rfl) (by kernel_rfl) (by kernel_rfl) (fun _ _ _ h => h) (Or.inl ⟨by rfl, ?h5⟩) ?k5
              case h5 => (intro w; go_simp; try (with_reducible rfl))
              go_simp
              refine wpAny_take (i := 6) (v := ?v6) rfl (by kernel_rfl) (by kernel_rfl) (by kernel_rfl) (fun _ _ _ h => h) (Or.inl ⟨by rfl, ?h6⟩) ?k6
              case h6 => (intro w; go_simp; try (with_reducible rfl))
              go_simp
              refine wpAny_take (i := 8) (v := ?v8) rfl (by kernel_rfl) (by kernel_rfl) (by kernel_rfl) (fun _ _ _ h => h) (Or.inl ⟨by rfl, ?h8⟩) ?k8
              case h8 => (intro w; go_simp; try (with_reducible rfl))
              go_simp
              refine wpAny_ready (rs := [7]) (by kernel_rfl) (by simp) ?_
              refine AllReady.cons rfl (fun K hK => ?_) AllReady.nil
              go_simp
              go_at_call 16
              refine (parts_any P k d ls _ hmd ((hp0'.below g1).up g1.size)).mono ?_
              rintro e _ ⟨rfl, rfl⟩
              rw [HF.out]
              refine hK _ _ ?_
              clear hK K
              refine wpAny_ready (rs := [9]) (by kernel_rfl) (by simp) ?_
              refine AllReady.cons rfl (fun K hK => ?_) AllReady.nil
              go_simp
              go_at_call 31
              refine (rsum_any F _ (by omega)).mono ?_
              rintro e _ ⟨rfl, rfl⟩
              refine hK _ _ ?_
              clear hK K
              refine wpAny_take (i := 10) (v := ?v10) rfl (by kernel_rfl) (by kernel_rfl) (by kernel_rfl) (fun _ _ _ h => h) (Or.inl ⟨by rfl, ?h10⟩) ?k10
              case h10 => (intro w; go_simp; try (with_reducible rfl))
              go_simp
              refine wpAny_take (i := 11) (v := ?v11) rfl (by kernel_rfl) (by kernel_rfl) (by kernel_rfl) (fun _ _ _ h => h) (Or.inl ⟨by rfl, ?h11⟩) ?k11
              case h11 => (intro w; go_simp; try (with_reducible rfl))
              go_simp
              refine wpAny_take (i := 12) (v := ?v12) rfl (by kernel_rfl) (by kernel_rfl) (by kernel_rfl) (fun _ _ _ h => h) (Or.inl ⟨by rfl, ?h12⟩) ?k12
              case h12 => (intro w; go_simp; try (with_reducible rfl))
              go_simp
              refine wpAny_take (i := 13) (v := ?v13) rfl (by kernel_rfl) (by kernel_rfl) (by kernel_rfl) (fun _ _ _ h => h) (Or.inl ⟨by rfl, ?h13⟩) ?k13
              case h13 => (intro w; go_simp; try (with_reducible rfl))
              go_simp
              refine wpAny_take (i := 16) (v := ?v16) rfl (by kernel_rfl) (by kernel_rfl) (by kernel_rfl) (fun _ _ _ h => h) (Or.inl ⟨by rfl, ?h16⟩) ?k16
              case h16 => (intro w; go_simp; try (with_reducible rfl))
              go_simp
              refine wpAny_ready (rs := [14]) (by kernel_rfl) (by simp) ?_
              refine AllReady.cons rfl (fun K hK => ?_) AllReady.nil
              go_simp
              go_at_call 17
              refine (seal_any A n c l _ hn hm (by omega) (row_at hr0' g1)).mono ?_
              rintro e W4 ⟨A4, c4, rfl, ho4, -, -, f4⟩
              have g4 := g1.trans (f4.mono g1.size)
              have hcv4 := conv_b (Row.own ho4) c4
              refine hK _ _ ?_
              clear hK K
              refine wpAny_ready (rs := [15, 17]) (by kernel_rfl) (by simp) ?_
              refine AllReady.cons rfl (fun K hK => ?_) (AllReady.cons rfl (fun K hK => ?_) AllReady.nil)
              · go_simp
                refine hK _ _ ?_
                clear hK K
                refine wpAny_ready (rs := [17]) (by kernel_rfl) (by simp) ?_
                refine AllReady.cons rfl (fun K hK => ?_) AllReady.nil
                go_simp
                go_at_call 32
                refine (rseal_any l _ (by omega)).mono ?_
                rintro e W17 ⟨rfl, f17⟩
                have g17 := g4.trans (f17.mono g4.size)
                refine hK _ _ ?_
                clear hK K
                clear hcv4
                have hcv5 := conv_b (hro'.below g17) co
                have hcv6 := conv_b (hr3.below g17) c3
                refine wpAny_take (i := 18) (v := ?v18) rfl (by kernel_rfl) (by kernel_rfl) (by kernel_rfl) (fun _ _ _ h => h) (Or.inl ⟨by rfl, ?h18⟩) ?k18
                case h18 => (intro w; go_simp; try (with_reducible rfl))
                go_simp
                refine wpAny_take (i := 19) (v := ?v19) rfl (by kernel_rfl) (by kernel_rfl) (by kernel_rfl) (fun _ _ _ h => h) (Or.inl ⟨by rfl, ?h19⟩) ?k19
                case h19 => (intro w; go_simp; try (with_reducible rfl))
                go_simp
                refine wpAny_take (i := 20) (v := ?v20) rfl (by kernel_rfl) (by kernel_rfl) (by kernel_rfl) (fun _ _ _ h => h) (Or.inl ⟨by rfl, ?h20⟩) ?k20
                case h20 => (intro w; go_simp; try (with_reducible rfl))
                go_simp
                refine wpAny_take (i := 21) (v := ?v21) rfl (by kernel_rfl) (by kernel_rfl) (by kernel_rfl) (fun _ _ _ h => h) (Or.inl ⟨by rfl, ?h21⟩) ?k21
                case h21 => (intro w; go_simp; try (with_reducible rfl))
                go_simp
                refine wpAny_take (i := 23) (v := ?v23) rfl (by kernel_rfl) (by kernel_rfl) (by kernel_rfl) (fun _ _ _ h => h) (Or.inl ⟨by rfl, ?h23⟩) ?k23
                case h23 => (intro w; go_simp; try (with_reducible rfl))
                go_simp
                refine wpAny_ready (rs := [22]) (by kernel_rfl) (by simp) ?_
                refine AllReady.cons rfl (fun K hK => ?_) AllReady.nil
                go_simp
                refine hK _ _ ?_
                clear hK K
                refine wpAny_take (i := 24) (v := ?v24) rfl (by kernel_rfl) (by kernel_rfl) (by kernel_rfl) (fun _ _ _ h => h) (Or.inl ⟨by rfl, ?h24⟩) ?k24
                case h24 => (intro w; go_simp; try (with_reducible rfl))
                go_simp
                refine wpAny_take (i := 25) (v := ?v25) rfl (by kernel_rfl) (by kernel_rfl) (by kernel_rfl) (fun _ _ _ h => h) (Or.inl ⟨by rfl, ?h25⟩) ?k25
                case h25 => (intro w; go_simp; try (with_reducible rfl))
                go_simp
                refine wpAny_take (i := 26) (v := ?v26) rfl (by kernel_rfl) (by kernel_rfl) (by kernel_rfl) (fun _ _ _ h => h) (Or.inl ⟨by rfl, ?h26⟩) ?k26
                case h26 => (intro w; go_simp; try (with_reducible rfl))
                go_simp
                refine wpAny_take (i := 27) (v := ?v27) rfl (by kernel_rfl) (by kernel_rfl) (by kernel_rfl) (fun _ _ _ h => h) (Or.inl ⟨by rfl, ?h27⟩) ?k27
                case h27 => (intro w; go_simp; try (with_reducible rfl))
                go_simp
                refine wpAny_take (i := 28) (v := ?v28) rfl (by kernel_rfl) (by kernel_rfl) (by kernel_rfl) (fun _ _ _ h => h) (Or.inl ⟨by rfl, ?h28⟩) ?k28
                case h28 => (intro w; go_simp; try (with_reducible rfl))
                go_simp
                refine wpAny_take (i := 29) (v := ?v29) rfl (by kernel_rfl) (by kernel_rfl) (by kernel_rfl) (fun _ _ _ h => h) (Or.inl ⟨by rfl, ?h29⟩) ?k29
                case h29 => (intro w; go_simp; try (with_reducible rfl))
                go_simp
                refine wpAny_take (i := 30) (v := ?v30) rfl (by kernel_rfl) (by kernel_rfl) (by kernel_rfl) (fun _ _ _ h => h) (Or.inl ⟨by rfl, ?h30⟩) ?k30
                case h30 => (intro w; go_simp; try (with_reducible rfl))
                go_simp
                refine wpAny_take (i := 31) (v := ?v31) rfl (by kernel_rfl) (by kernel_rfl) (by kernel_rfl) (fun _ _ _ h => h) (Or.inl ⟨by rfl, ?h31⟩) ?k31
                case h31 => (intro w; go_simp; try (with_reducible rfl))
                go_simp
                refine wpAny_take (i := 32) (v := ?v32) rfl (by kernel_rfl) (by kernel_rfl) (by kernel_rfl) (fun _ _ _ h => h) (Or.inl ⟨by rfl, ?h32⟩) ?k32
                case h32 => (intro w; go_simp; try (with_reducible rfl))
                go_simp
                refine wpAny_take (i := 34) (v := ?v34) rfl (by kernel_rfl) (by kernel_rfl) (by kernel_rfl) (fun _ _ _ h => h) (Or.inl ⟨by rfl, ?h34⟩) ?k34
                case h34 => (intro w; go_simp; try (with_reducible rfl))
                go_simp
                refine wpAny_ready (rs := [33]) (by kernel_rfl) (by simp) ?_
                refine AllReady.cons rfl (fun K hK => ?_) AllReady.nil
                go_simp
                refine hK _ _ ?_
                clear hK K
                refine wpAny_take (i := 35) (v := ?v35) rfl (by kernel_rfl) (by kernel_rfl) (by kernel_rfl) (fun _ _ _ h => h) (Or.inl ⟨by rfl, ?h35⟩) ?k35
                case h35 => (intro w; go_simp; try (with_reducible rfl))
                go_simp
                refine wpAny_take (i := 36) (v := ?v36) rfl (by kernel_rfl) (by kernel_rfl) (by kernel_rfl) (fun _ _ _ h => h) (Or.inl ⟨by rfl, ?h36⟩) ?k36
                case h36 => (intro w; go_simp; try (with_reducible rfl))
                go_simp
                refine wpAny_take (i := 37) (v := ?v37) rfl (by kernel_rfl) (by kernel_rfl) (by kernel_rfl) (fun _ _ _ h => h) (Or.inl ⟨by rfl, ?h37⟩) ?k37
                case h37 => (intro w; go_simp; try (with_reducible rfl))
                go_simp
                refine wpAny_take (i := 38) (v := ?v38) rfl (by kernel_rfl) (by kernel_rfl) (by kernel_rfl) (fun _ _ _ h => h) (Or.inl ⟨by rfl, ?h38⟩) ?k38
                case h38 => (intro w; go_simp; try (with_reducible rfl))
                go_simp
                refine wpAny_take (i := 39) (v := ?v39) rfl (by kernel_rfl) (by kernel_rfl) (by kernel_rfl) (fun _ _ _ h => h) (Or.inl ⟨by rfl, ?h39⟩) ?k39
                case h39 => (intro w; go_simp; try (with_reducible rfl))
                go_simp
                refine wpAny_take (i := 40) (v := ?v40) rfl (by kernel_rfl) (by kernel_rfl) (by kernel_rfl) (fun _ _ _ h => h) (Or.inl ⟨by rfl, ?h40⟩) ?k40
                case h40 => (intro w; go_simp; try (with_reducible rfl))
                go_simp
                refine wpAny_take (i := 41) (v := ?v41) rfl (by kernel_rfl) (by kernel_rfl) (by kernel_rfl) (fun _ _ _ h => h) (Or.inl ⟨by rfl, ?h41⟩) ?k41
                case h41 => (intro w; go_simp; try (with_reducible rfl))
                go_simp
                refine wpAny_take (i := 42) (v := ?v42) rfl (by kernel_rfl) (by kernel_rfl) (by kernel_rfl) (fun _ _ _ h => h) (Or.inl ⟨by rfl, ?h42⟩) ?k42
                case h42 => (intro w; go_simp; try (with_reducible rfl))
                go_simp
                refine wpAny_take (i := 44) (v := ?v44) rfl (by kernel_rfl) (by kernel_rfl) (by kernel_rfl) (fun _ _ _ h => h) (Or.inl ⟨by rfl, ?h44⟩) ?k44
                case h44 => (intro w; go_simp; try (with_reducible rfl))
                go_simp
                refine wpAny_ready (rs := [43]) (by kernel_rfl) (by simp) ?_
                refine AllReady.cons rfl (fun K hK => ?_) AllReady.nil
                go_simp
                go_at_call 20
                refine (hash_any A n c l _ (by omega) (row_at hr0' g17)).mono ?_
                rintro e _ ⟨rfl, rfl⟩
                refine hK _ _ ?_
                clear hK K
                refine wpAny_ready (rs := [45]) (by kernel_rfl) (by simp) ?_
                refine AllReady.cons rfl (fun K hK => ?_) AllReady.nil
                go_simp
                go_at_call 33
                refine (rhash_any l _ (by omega)).mono ?_
                rintro e _ ⟨rfl, rfl⟩
                refine hK _ _ ?_
                clear hK K
                refine wpAny_take (i := 46) (v := ?v46) rfl (by kernel_rfl) (by kernel_rfl) (by kernel_rfl) (fun _ _ _ h => h) (Or.inl ⟨by rfl, ?h46⟩) ?k46
                case h46 => (intro w; go_simp; try (with_reducible rfl))
                go_simp
                refine wpAny_take (i := 47) (v := ?v47) rfl (by kernel_rfl) (by kernel_rfl) (by kernel_rfl) (fun _ _ _ h => h) (Or.inl ⟨by rfl, ?h47⟩) ?k47
                case h47 => (intro w; go_simp; try (with_reducible rfl))
                go_simp
                refine wpAny_take (i := 48) (v := ?v48) rfl (by kernel_rfl) (by kernel_rfl) (by kernel_rfl) (fun _ _ _ h => h) (Or.inl ⟨by rfl, ?h48⟩) ?k48
                case h48 => (intro w; go_simp; try (with_reducible rfl))
                go_simp
                refine wpAny_take (i := 49) (v := ?v49) rfl (by kernel_rfl) (by kernel_rfl) (by kernel_rfl) (fun _ _ _ h => h) (Or.inl ⟨by rfl, ?h49⟩) ?k49
                case h49 => (intro w; go_simp; try (with_reducible rfl))
                go_simp
                refine wpAny_take (i := 50) (v := ?v50) rfl (by kernel_rfl) (by kernel_rfl) (by kernel_rfl) (fun _ _ _ h => h) (Or.inl ⟨by rfl, ?h50⟩) ?k50
                case h50 => (intro w; go_simp; try (with_reducible rfl))
                go_simp
                refine wpAny_take (i := 52) (v := ?v52) rfl (by kernel_rfl) (by kernel_rfl) (by kernel_rfl) (fun _ _ _ h => h) (Or.inl ⟨by rfl, ?h52⟩) ?k52
                case h52 => (intro w; go_simp; try (with_reducible rfl))
                go_simp
                refine wpAny_take (i := 53) (v := ?v53) rfl (by kernel_rfl) (by kernel_rfl) (by kernel_rfl) (fun _ _ _ h => h) (Or.inl ⟨by rfl, ?h53⟩) ?k53
                case h53 => (intro w; go_simp; try (with_reducible rfl))
                go_simp
                refine wpAny_ready (rs := [51]) (by kernel_rfl) (by simp) ?_
                refine AllReady.cons rfl (fun K hK => ?_) AllReady.nil
                go_simp
                go_at_call 34
                refine (mix_any x y _).mono ?_
                rintro e W51 ⟨rfl, f51⟩
                have g51 := g17.trans (f51.mono g17.size)
                refine hK _ _ ?_
                clear hK K
                refine wpAny_ready (rs := [54]) (by kernel_rfl) (by simp) ?_
                refine AllReady.cons rfl (fun K hK => ?_) AllReady.nil
                go_simp
                go_at_call 35
                refine (rmix_any x y _).mono ?_
                rintro e W54 ⟨rfl, f54⟩
                have g54 := g51.trans (f54.mono g51.size)
                refine hK _ _ ?_
                clear hK K
                refine wpAny_take (i := 55) (v := ?v55) rfl (by kernel_rfl) (by kernel_rfl) (by kernel_rfl) (fun _ _ _ h => h) (Or.inl ⟨by rfl, ?h55⟩) ?k55
                case h55 => (intro w; go_simp; try (with_reducible rfl))
                go_simp
                refine wpAny_take (i := 56) (v := ?v56) rfl (by kernel_rfl) (by kernel_rfl) (by kernel_rfl) (fun _ _ _ h => h) (Or.inl ⟨by rfl, ?h56⟩) ?k56
                case h56 => (intro w; go_simp; try (with_reducible rfl))
                go_simp
                refine wpAny_take (i := 57) (v := ?v57) rfl (by kernel_rfl) (by kernel_rfl) (by kernel_rfl) (fun _ _ _ h => h) (Or.inl ⟨by rfl, ?h57⟩) ?k57
                case h57 => (intro w; go_simp; try (with_reducible rfl))
                go_simp
                refine wpAny_ready (rs := [58]) (by kernel_rfl) (by simp) ?_
                refine AllReady.cons rfl (fun K hK => ?_) AllReady.nil
                go_simp
                go_at_call 15
                refine (awake_any _).mono ?_
                rintro e W58 ⟨rfl, f58⟩
                have g58 := g54.trans (f58.mono g54.size)
                refine hK _ _ ?_
                clear hK K
                refine wpAny_take (i := 59) (v := ?v59) rfl (by kernel_rfl) (by kernel_rfl) (by kernel_rfl) (fun _ _ _ h => h) (Or.inl ⟨by rfl, ?h59⟩) ?k59
                case h59 => (intro w; go_simp; try (with_reducible rfl))
                go_simp
                refine wpAny_take (i := 60) (v := ?v60) rfl (by kernel_rfl) (by kernel_rfl) (by kernel_rfl) (fun _ _ _ h => h) (Or.inl ⟨by rfl, ?h60⟩) ?k60
                case h60 => (intro w; go_simp; try (with_reducible rfl))
                go_simp
                refine wpAny_done (by kernel_rfl) ?_ _
                go_wp2_with fail
                go_meet
                case rel => exact ⟨rfl, g58⟩
              · go_simp
                go_at_call 32
                refine (rseal_any l _ (by omega)).mono ?_
                rintro e W17 ⟨rfl, f17⟩
                have g17 := g4.trans (f17.mono g4.size)
                refine hK _ _ ?_
                clear hK K
                have hcv4 := conv_b ((Row.own ho4).below f17) c4
                refine wpAny_ready (rs := [15]) (by kernel_rfl) (by simp) ?_
                refine AllReady.cons rfl (fun K hK => ?_) AllReady.nil
                go_simp
                refine hK _ _ ?_
                clear hK K
                clear hcv4
                have hcv5 := conv_b (hro'.below g17) co
                have hcv6 := conv_b (hr3.below g17) c3
                refine wpAny_take (i := 18) (v := ?vb18) rfl (by kernel_rfl) (by kernel_rfl) (by kernel_rfl) (fun _ _ _ h => h) (Or.inl ⟨by rfl, ?hb18⟩) ?kb18
                case hb18 => (intro w; go_simp; try (with_reducible rfl))
                go_simp
                refine wpAny_take (i := 19) (v := ?vb19) rfl (by kernel_rfl) (by kernel_rfl) (by kernel_rfl) (fun _ _ _ h => h) (Or.inl ⟨by rfl, ?hb19⟩) ?kb19
                case hb19 => (intro w; go_simp; try (with_reducible rfl))
                go_simp
                refine wpAny_take (i := 20) (v := ?vb20) rfl (by kernel_rfl) (by kernel_rfl) (by kernel_rfl) (fun _ _ _ h => h) (Or.inl ⟨by rfl, ?hb20⟩) ?kb20
                case hb20 => (intro w; go_simp; try (with_reducible rfl))
                go_simp
                refine wpAny_take (i := 21) (v := ?vb21) rfl (by kernel_rfl) (by kernel_rfl) (by kernel_rfl) (fun _ _ _ h => h) (Or.inl ⟨by rfl, ?hb21⟩) ?kb21
                case hb21 => (intro w; go_simp; try (with_reducible rfl))
                go_simp
                refine wpAny_take (i := 23) (v := ?vb23) rfl (by kernel_rfl) (by kernel_rfl) (by kernel_rfl) (fun _ _ _ h => h) (Or.inl ⟨by rfl, ?hb23⟩) ?kb23
                case hb23 => (intro w; go_simp; try (with_reducible rfl))
                go_simp
                refine wpAny_ready (rs := [22]) (by kernel_rfl) (by simp) ?_
                refine AllReady.cons rfl (fun K hK => ?_) AllReady.nil
                go_simp
                refine hK _ _ ?_
                clear hK K
                refine wpAny_take (i := 24) (v := ?vb24) rfl (by kernel_rfl) (by kernel_rfl) (by kernel_rfl) (fun _ _ _ h => h) (Or.inl ⟨by rfl, ?hb24⟩) ?kb24
                case hb24 => (intro w; go_simp; try (with_reducible rfl))
                go_simp
                refine wpAny_take (i := 25) (v := ?vb25) rfl (by kernel_rfl) (by kernel_rfl) (by kernel_rfl) (fun _ _ _ h => h) (Or.inl ⟨by rfl, ?hb25⟩) ?kb25
                case hb25 => (intro w; go_simp; try (with_reducible rfl))
                go_simp
                refine wpAny_take (i := 26) (v := ?vb26) rfl (by kernel_rfl) (by kernel_rfl) (by kernel_rfl) (fun _ _ _ h => h) (Or.inl ⟨by rfl, ?hb26⟩) ?kb26
                case hb26 => (intro w; go_simp; try (with_reducible rfl))
                go_simp
                refine wpAny_take (i := 27) (v := ?vb27) rfl (by kernel_rfl) (by kernel_rfl) (by kernel_rfl) (fun _ _ _ h => h) (Or.inl ⟨by rfl, ?hb27⟩) ?kb27
                case hb27 => (intro w; go_simp; try (with_reducible rfl))
                go_simp
                refine wpAny_take (i := 28) (v := ?vb28) rfl (by kernel_rfl) (by kernel_rfl) (by kernel_rfl) (fun _ _ _ h => h) (Or.inl ⟨by rfl, ?hb28⟩) ?kb28
                case hb28 => (intro w; go_simp; try (with_reducible rfl))
                go_simp
                refine wpAny_take (i := 29) (v := ?vb29) rfl (by kernel_rfl) (by kernel_rfl) (by kernel_rfl) (fun _ _ _ h => h) (Or.inl ⟨by rfl, ?hb29⟩) ?kb29
                case hb29 => (intro w; go_simp; try (with_reducible rfl))
                go_simp
                refine wpAny_take (i := 30) (v := ?vb30) rfl (by kernel_rfl) (by kernel_rfl) (by kernel_rfl) (fun _ _ _ h => h) (Or.inl ⟨by rfl, ?hb30⟩) ?kb30
                case hb30 => (intro w; go_simp; try (with_reducible rfl))
                go_simp
                refine wpAny_take (i := 31) (v := ?vb31) rfl (by kernel_rfl) (by kernel_rfl) (by kernel_rfl) (fun _ _ _ h => h) (Or.inl ⟨by rfl, ?hb31⟩) ?kb31
                case hb31 => (intro w; go_simp; try (with_reducible rfl))
                go_simp
                refine wpAny_take (i := 32) (v := ?vb32) rfl (by kernel_rfl) (by kernel_rfl) (by kernel_rfl) (fun _ _ _ h => h) (Or.inl ⟨by rfl, ?hb32⟩) ?kb32
                case hb32 => (intro w; go_simp; try (with_reducible rfl))
                go_simp
                refine wpAny_take (i := 34) (v := ?vb34) rfl (by kernel_rfl) (by kernel_rfl) (by kernel_rfl) (fun _ _ _ h => h) (Or.inl ⟨by rfl, ?hb34⟩) ?kb34
                case hb34 => (intro w; go_simp; try (with_reducible rfl))
                go_simp
                refine wpAny_ready (rs := [33]) (by kernel_rfl) (by simp) ?_
                refine AllReady.cons rfl (fun K hK => ?_) AllReady.nil
                go_simp
                refine hK _ _ ?_
                clear hK K
                refine wpAny_take (i := 35) (v := ?vb35) rfl (by kernel_rfl) (by kernel_rfl) (by kernel_rfl) (fun _ _ _ h => h) (Or.inl ⟨by rfl, ?hb35⟩) ?kb35
                case hb35 => (intro w; go_simp; try (with_reducible rfl))
                go_simp
                refine wpAny_take (i := 36) (v := ?vb36) rfl (by kernel_rfl) (by kernel_rfl) (by kernel_rfl) (fun _ _ _ h => h) (Or.inl ⟨by rfl, ?hb36⟩) ?kb36
                case hb36 => (intro w; go_simp; try (with_reducible rfl))
                go_simp
                refine wpAny_take (i := 37) (v := ?vb37) rfl (by kernel_rfl) (by kernel_rfl) (by kernel_rfl) (fun _ _ _ h => h) (Or.inl ⟨by rfl, ?hb37⟩) ?kb37
                case hb37 => (intro w; go_simp; try (with_reducible rfl))
                go_simp
                refine wpAny_take (i := 38) (v := ?vb38) rfl (by kernel_rfl) (by kernel_rfl) (by kernel_rfl) (fun _ _ _ h => h) (Or.inl ⟨by rfl, ?hb38⟩) ?kb38
                case hb38 => (intro w; go_simp; try (with_reducible rfl))
                go_simp
                refine wpAny_take (i := 39) (v := ?vb39) rfl (by kernel_rfl) (by kernel_rfl) (by kernel_rfl) (fun _ _ _ h => h) (Or.inl ⟨by rfl, ?hb39⟩) ?kb39
                case hb39 => (intro w; go_simp; try (with_reducible rfl))
                go_simp
                refine wpAny_take (i := 40) (v := ?vb40) rfl (by kernel_rfl) (by kernel_rfl) (by kernel_rfl) (fun _ _ _ h => h) (Or.inl ⟨by rfl, ?hb40⟩) ?kb40
                case hb40 => (intro w; go_simp; try (with_reducible rfl))
                go_simp
                refine wpAny_take (i := 41) (v := ?vb41) rfl (by kernel_rfl) (by kernel_rfl) (by kernel_rfl) (fun _ _ _ h => h) (Or.inl ⟨by rfl, ?hb41⟩) ?kb41
                case hb41 => (intro w; go_simp; try (with_reducible rfl))
                go_simp
                refine wpAny_take (i := 42) (v := ?vb42) rfl (by kernel_rfl) (by kernel_rfl) (by kernel_rfl) (fun _ _ _ h => h) (Or.inl ⟨by rfl, ?hb42⟩) ?kb42
                case hb42 => (intro w; go_simp; try (with_reducible rfl))
                go_simp
                refine wpAny_take (i := 44) (v := ?vb44) rfl (by kernel_rfl) (by kernel_rfl) (by kernel_rfl) (fun _ _ _ h => h) (Or.inl ⟨by rfl, ?hb44⟩) ?kb44
                case hb44 => (intro w; go_simp; try (with_reducible rfl))
                go_simp
                refine wpAny_ready (rs := [43]) (by kernel_rfl) (by simp) ?_
                refine AllReady.cons rfl (fun K hK => ?_) AllReady.nil
                go_simp
                go_at_call 20
                refine (hash_any A n c l _ (by omega) (row_at hr0' g17)).mono ?_
                rintro e _ ⟨rfl, rfl⟩
                refine hK _ _ ?_
                clear hK K
                refine wpAny_ready (rs := [45]) (by kernel_rfl) (by simp) ?_
                refine AllReady.cons rfl (fun K hK => ?_) AllReady.nil
                go_simp
                go_at_call 33
                refine (rhash_any l _ (by omega)).mono ?_
                rintro e _ ⟨rfl, rfl⟩
                refine hK _ _ ?_
                clear hK K
                refine wpAny_take (i := 46) (v := ?vb46) rfl (by kernel_rfl) (by kernel_rfl) (by kernel_rfl) (fun _ _ _ h => h) (Or.inl ⟨by rfl, ?hb46⟩) ?kb46
                case hb46 => (intro w; go_simp; try (with_reducible rfl))
                go_simp
                refine wpAny_take (i := 47) (v := ?vb47) rfl (by kernel_rfl) (by kernel_rfl) (by kernel_rfl) (fun _ _ _ h => h) (Or.inl ⟨by rfl, ?hb47⟩) ?kb47
                case hb47 => (intro w; go_simp; try (with_reducible rfl))
                go_simp
                refine wpAny_take (i := 48) (v := ?vb48) rfl (by kernel_rfl) (by kernel_rfl) (by kernel_rfl) (fun _ _ _ h => h) (Or.inl ⟨by rfl, ?hb48⟩) ?kb48
                case hb48 => (intro w; go_simp; try (with_reducible rfl))
                go_simp
                refine wpAny_take (i := 49) (v := ?vb49) rfl (by kernel_rfl) (by kernel_rfl) (by kernel_rfl) (fun _ _ _ h => h) (Or.inl ⟨by rfl, ?hb49⟩) ?kb49
                case hb49 => (intro w; go_simp; try (with_reducible rfl))
                go_simp
                refine wpAny_take (i := 50) (v := ?vb50) rfl (by kernel_rfl) (by kernel_rfl) (by kernel_rfl) (fun _ _ _ h => h) (Or.inl ⟨by rfl, ?hb50⟩) ?kb50
                case hb50 => (intro w; go_simp; try (with_reducible rfl))
                go_simp
                refine wpAny_take (i := 52) (v := ?vb52) rfl (by kernel_rfl) (by kernel_rfl) (by kernel_rfl) (fun _ _ _ h => h) (Or.inl ⟨by rfl, ?hb52⟩) ?kb52
                case hb52 => (intro w; go_simp; try (with_reducible rfl))
                go_simp
                refine wpAny_take (i := 53) (v := ?vb53) rfl (by kernel_rfl) (by kernel_rfl) (by kernel_rfl) (fun _ _ _ h => h) (Or.inl ⟨by rfl, ?hb53⟩) ?kb53
                case hb53 => (intro w; go_simp; try (with_reducible rfl))
                go_simp
                refine wpAny_ready (rs := [51]) (by kernel_rfl) (by simp) ?_
                refine AllReady.cons rfl (fun K hK => ?_) AllReady.nil
                go_simp
                go_at_call 34
                refine (mix_any x y _).mono ?_
                rintro e W51 ⟨rfl, f51⟩
                have g51 := g17.trans (f51.mono g17.size)
                refine hK _ _ ?_
                clear hK K
                refine wpAny_ready (rs := [54]) (by kernel_rfl) (by simp) ?_
                refine AllReady.cons rfl (fun K hK => ?_) AllReady.nil
                go_simp
                go_at_call 35
                refine (rmix_any x y _).mono ?_
                rintro e W54 ⟨rfl, f54⟩
                have g54 := g51.trans (f54.mono g51.size)
                refine hK _ _ ?_
                clear hK K
                refine wpAny_take (i := 55) (v := ?vb55) rfl (by kernel_rfl) (by kernel_rfl) (by kernel_rfl) (fun _ _ _ h => h) (Or.inl ⟨by rfl, ?hb55⟩) ?kb55
                case hb55 => (intro w; go_simp; try (with_reducible rfl))
                go_simp
                refine wpAny_take (i := 56) (v := ?vb56) rfl (by kernel_rfl) (by kernel_rfl) (by kernel_rfl) (fun _ _ _ h => h) (Or.inl ⟨by rfl, ?hb56⟩) ?kb56
                case hb56 => (intro w; go_simp; try (with_reducible rfl))
                go_simp
                refine wpAny_take (i := 57) (v := ?vb57) rfl (by kernel_rfl) (by kernel_rfl) (by kernel_rfl) (fun _ _ _ h => h) (Or.inl ⟨by rfl, ?hb57⟩) ?kb57
                case hb57 => (intro w; go_simp; try (with_reducible rfl))
                go_simp
                refine wpAny_ready (rs := [58]) (by kernel_rfl) (by simp) ?_
                refine AllReady.cons rfl (fun K hK => ?_) AllReady.nil
                go_simp
                go_at_call 15
                refine (awake_any _).mono ?_
                rintro e W58 ⟨rfl, f58⟩
                have g58 := g54.trans (f58.mono g54.size)
                refine hK _ _ ?_
                clear hK K
                refine wpAny_take (i := 59) (v := ?vb59) rfl (by kernel_rfl) (by kernel_rfl) (by kernel_rfl) (fun _ _ _ h => h) (Or.inl ⟨by rfl, ?hb59⟩) ?kb59
                case hb59 => (intro w; go_simp; try (with_reducible rfl))
                go_simp
                refine wpAny_take (i := 60) (v := ?vb60) rfl (by kernel_rfl) (by kernel_rfl) (by kernel_rfl) (fun _ _ _ h => h) (Or.inl ⟨by rfl, ?hb60⟩) ?kb60
                case hb60 => (intro w; go_simp; try (with_reducible rfl))
                go_simp
                refine wpAny_done (by kernel_rfl) ?_ _
                go_wp2_with fail
                go_meet
                case rel => exact ⟨rfl, g58⟩
            case rest =>
              obtain ⟨rfl, hbz⟩ := hcut
              go_wp2
              go_ret
              exact ⟨rfl, hbV.trans (hbz.mono hbV.size)⟩
end Go.Proofs.Ytmfobogicdeokaa
