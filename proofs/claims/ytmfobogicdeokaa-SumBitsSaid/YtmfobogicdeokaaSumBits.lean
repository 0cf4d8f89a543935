/-
  The walk of the law SumBits: it answers true, and changes nothing that was there.
-/
import Derived.Test.YtmfobogicdeokaaSumBursts
namespace Go.Proofs.Ytmfobogicdeokaa
open Go.RowKit

theorem Row.far {B n size g : Nat} {w w' : World} {A : Option Addr} {xs : List Value} (h : Row B w A n size xs) (hg : w.grownBy w' (some g)) (hB : B ≤ w.heap.size) (hne : ∀ a, A = some a → a.block ≠ g) : Row B w' A n size xs := by
  refine ⟨h.len, fun j hj => ?_⟩
  obtain ⟨a, e, b, c⟩ := h.cell j hj
  refine ⟨a, e, b, ?_⟩
  have hk := hg.block a.block (by omega) (fun e2 => hne a e (by injection e2))
  rw [World.cell?_of_block (w := w) (by rw [add_block]; exact hk)]
  exact c

set_option maxHeartbeats 1000000 in
theorem sumBits_walk (A : Option Addr) (n c : Nat) (l : List UInt8) (i j k m : Int) (w : World) (hn : n ≤ c) (hm : c ≤ maxLen) (hr : Row w.heap.size w A n 1 (bts l)) :
    Calls Try.prog 5 #[.slice A n c, .int .i64 i, .int .i64 j, .int .i64 k, .int .i64 m] w fun e w' => e = .returned (.bool true) ∧ Below w.heap.size w w' := by
  have hm' : c ≤ 9223372036854775807 := hm
  by_cases h3 : 4088 < n
  · go_enter Try.func5, Try.ntmps5
    go_wp2_with (go_at_call 15; refine (awake_any _).mono ?_; rintro e w' ⟨rfl, hb⟩)
    go_ret
    exact ⟨rfl, hb⟩
  · obtain ⟨i0, hi0, hz0, hz1, hz2⟩ := info_parts info_u8
    obtain ⟨mi, hmi, _⟩ := and_mask i 24 (by omega)
    obtain ⟨mj, hmj, _⟩ := and_mask j 24 (by omega)
    obtain ⟨mk, hmk, _⟩ := and_mask k 24 (by omega)
    obtain ⟨mm, hmm, hmm0⟩ := and_mask m 8 (by omega)
    rw [show ((2 ^ 24 - 1 : Nat) : Int) = 16777215 from rfl] at hmi hmj hmk
    rw [show ((2 ^ 8 - 1 : Nat) : Int) = 255 from rfl] at hmm
    have hl := hr.btlen
    have hsl : (Crc.sealed l).length = n + 4 := by rw [Crc.sealed_length, hl]
    have HSL := Lib.hid hsl
    have HL := Lib.hid hl
    clear hl hsl
    go_enter Try.func5, Try.ntmps5
    go_wp2_with fail
    refine (seal_any A n c l w hn hm (by omega) hr).mono ?_
    rintro e w1 ⟨A1, c1, rfl, ho1, hc1, hm1, hb1⟩
    obtain ⟨g, cap, hA1, hcap, hglt⟩ := ho1.form (by omega)
    injection hA1 with hA1 _ hA2
    subst hA1
    subst hA2
    go_wp2_with (at_builtin; refine stop_in ?_)
    refine stop_out (wpList_app rfl (.tmp 29) (.tmp 30) _ rfl w1.heap.size 5 i0 _ 1 1 Try.underlying22 hi0 hz0 hz1 hz2 rfl (by omega) w1 ((Below.refl _ _).alloc (Nat.le_refl _) _) (by simp) _ 0 [] rfl (World.ownsRow_made w1 #[] 0 (Nat.le_refl _) (Nat.zero_le _) rfl) w1.heap.size (some ⟨g, 0, none⟩) (n + 4) c1 (bts (Crc.sealed l)) rfl ((Row.own ho1).alloc (Nat.le_refl _) _) (bts_one _) (n + 4) (bts (Crc.sealed l)) (Nat.zero_add _) rfl (by unfold maxLen; omega) (by omega) ?_)
    intro A2 c2 w2 ho2 hb2 _ hc2 hm2
    obtain ⟨g2, cap2, hA2, hcap2, hglt2⟩ := ho2.form (by omega)
    injection hA2 with hA2 _ hA3
    subst hA2
    subst hA3
    have ho1' := own_below ho1 hb2
    have hs2 := hb2.size
    clear ho1
    obtain ⟨p0, hp0, hp0M⟩ : ∃ p : Nat, (mi : Int).tmod (8 * ((n : Int) + 4)) = (p : Int) ∧ p < 8 * (n + 4) := ⟨mi % (8 * (n + 4)), by rw [Int.tmod_eq_emod_of_nonneg (by omega), Int.natCast_emod]; rfl, Nat.mod_lt _ (by omega)⟩
    obtain ⟨p1, hp1, hp1M⟩ : ∃ p : Nat, (mj : Int).tmod (8 * ((n : Int) + 4)) = (p : Int) ∧ p < 8 * (n + 4) := ⟨mj % (8 * (n + 4)), by rw [Int.tmod_eq_emod_of_nonneg (by omega), Int.natCast_emod]; rfl, Nat.mod_lt _ (by omega)⟩
    obtain ⟨p2, hp2, hp2M⟩ : ∃ p : Nat, (mk : Int).tmod (8 * ((n : Int) + 4)) = (p : Int) ∧ p < 8 * (n + 4) := ⟨mk % (8 * (n + 4)), by rw [Int.tmod_eq_emod_of_nonneg (by omega), Int.natCast_emod]; rfl, Nat.mod_lt _ (by omega)⟩
    have hw0 : IntKind.i64.wrap (8 * ((n : Int) + 4)) = 8 * ((n : Int) + 4) := by rw [IntKind.wrap_i64]; omega
    have hw1 : ¬ (8 * ((n : Int) + 4) = 0) := by omega
    go_wp2
    refine wp_region_any (by kernel_rfl) ?_
    change wpAny _ _ _ _ _ _ _ (World.drew _)
    refine wpAny_take (i := 0) (v := ?v0) rfl (by kernel_rfl) (by kernel_rfl) (by kernel_rfl) (fun _ _ _ h => h) (Or.inl ⟨by rfl, ?h0⟩) ?k0
    case h0 => (intro w; go_simp; try (with_reducible rfl))
    go_simp
    refine wpAny_take (i := 1) (v := ?v1) rfl (by kernel_rfl) (by kernel_rfl) (by kernel_rfl) (fun _ _ _ h => h) (Or.inl ⟨by rfl, ?h1⟩) ?k1
    case h1 => (intro w; go_simp; try (with_reducible rfl))
    go_simp
    refine wpAny_take (i := 2) (v := ?v2) rfl (by kernel_rfl) (by kernel_rfl) (by kernel_rfl) (fun _ _ _ h => h) (Or.inl ⟨by rfl, ?h2⟩) ?k2
    case h2 => (intro w; go_simp; try (with_reducible rfl))
    go_simp
    refine wpAny_take (i := 3) (v := ?v3) rfl (by kernel_rfl) (by kernel_rfl) (by kernel_rfl) (fun _ _ _ h => h) (Or.inl ⟨by rfl, ?h3⟩) ?k3
    case h3 => (intro w; go_simp; try (with_reducible rfl))
    go_simp
    refine wpAny_take (i := 4) (v := ?v4) rfl (by kernel_rfl) (by kernel_rfl) (by kernel_rfl) (fun _ _ _ h => h) (Or.inl ⟨by rfl, ?h4⟩) ?k4
    case h4 => (intro w; go_simp; try (with_reducible rfl))
    go_simp
    refine wpAny_take (i := 5) (v := ?v5) rfl (by kernel_rfl) (by kernel_rfl) (by kernel_rfl) (fun _ _ _ h => h) (Or.inl ⟨by rfl, ?h5⟩) ?k5
    case h5 => (intro w; go_simp; try (with_reducible rfl))
    go_simp
    refine wpAny_take (i := 6) (v := ?v6) rfl (by kernel_rfl) (by kernel_rfl) (by kernel_rfl) (fun _ _ _ h => h) (Or.inl ⟨by rfl, ?h6⟩) ?k6
    case h6 => (intro w; go_simp; try (with_reducible rfl))
    go_simp
    refine wpAny_take (i := 7) (v := ?v7) rfl (by kernel_rfl) (by kernel_rfl) (by kernel_rfl) (fun _ _ _ h => h) (Or.inl ⟨by rfl, ?h7⟩) ?k7
    case h7 => (intro w; go_simp; try (with_reducible rfl))
    go_simp
    refine wpAny_take (i := 8) (v := ?v8) rfl (by kernel_rfl) (by kernel_rfl) (by kernel_rfl) (fun _ _ _ h => h) (Or.inl ⟨by rfl, ?h8⟩) ?k8
    case h8 => (intro w; go_simp; try (with_reducible rfl))
    go_simp
    refine wpAny_take (i := 9) (v := ?v9) rfl (by kernel_rfl) (by kernel_rfl) (by kernel_rfl) (fun _ _ _ h => h) (Or.inl ⟨by rfl, ?h9⟩) ?k9
    case h9 => (intro w; go_simp; try (with_reducible rfl))
    go_simp
    refine wpAny_take (i := 10) (v := ?v10) rfl (by kernel_rfl) (by kernel_rfl) (by kernel_rfl) (fun _ _ _ h => h) (Or.inl ⟨by rfl, ?h10⟩) ?k10
    case h10 => (intro w; go_simp; try (with_reducible rfl))
    go_simp
    refine wpAny_take (i := 11) (v := ?v11) rfl (by kernel_rfl) (by kernel_rfl) (by kernel_rfl) (fun _ _ _ h => h) (Or.inl ⟨by rfl, ?h11⟩) ?k11
    case h11 => (intro w; go_simp; try (with_reducible rfl))
    go_simp
    refine wpAny_take (i := 12) (v := ?v12) rfl (by kernel_rfl) (by kernel_rfl) (by kernel_rfl) (fun _ _ _ h => h) (Or.inl ⟨by rfl, ?h12⟩) ?k12
    case h12 => (intro w; go_simp; try (with_reducible rfl))
    go_simp
    refine wpAny_take (i := 13) (v := ?v13) rfl (by kernel_rfl) (by kernel_rfl) (by kernel_rfl) (fun _ _ _ h => h) (Or.inl ⟨by rfl, ?h13⟩) ?k13
    case h13 => (intro w; go_simp; try (with_reducible rfl))
    go_simp
    refine wpAny_take (i := 14) (v := ?v14) rfl (by kernel_rfl) (by kernel_rfl) (by kernel_rfl) (fun _ _ _ h => h) (Or.inl ⟨by rfl, ?h14⟩) ?k14
    case h14 => (intro w; go_simp; try (with_reducible rfl))
    go_simp
    refine wpAny_take (i := 15) (v := ?v15) rfl (by kernel_rfl) (by kernel_rfl) (by kernel_rfl) (fun _ _ _ h => h) (Or.inl ⟨by rfl, ?h15⟩) ?k15
    case h15 => (intro w; go_simp; try (with_reducible rfl))
    go_simp
    refine wpAny_take (i := 16) (v := ?v16) rfl (by kernel_rfl) (by kernel_rfl) (by kernel_rfl) (fun _ _ _ h => h) (Or.inl ⟨by rfl, ?h16⟩) ?k16
    case h16 => (intro w; go_simp; try (with_reducible rfl))
    go_simp
    refine wpAny_take (i := 17) (v := ?v17) rfl (by kernel_rfl) (by kernel_rfl) (by kernel_rfl) (fun _ _ _ h => h) (Or.inl ⟨by rfl, ?h17⟩) ?k17
    case h17 => (intro w; go_simp; try (with_reducible rfl))
    go_simp
    refine wpAny_ready (rs := [18]) (by kernel_rfl) (by simp) ?_
    refine AllReady.cons rfl (fun K hK => ?_) AllReady.nil
    go_simp
    refine hK _ _ ?_
    clear hK K
    refine wpAny_take (i := 19) (v := ?v19) rfl (by kernel_rfl) (by kernel_rfl) (by kernel_rfl) (fun _ _ _ h => h) (Or.inl ⟨by rfl, ?h19⟩) ?k19
    case h19 => (intro w; go_simp; try (with_reducible rfl))
    go_simp
    refine wpAny_done (by kernel_rfl) ?_ _
    go_wp2
    clear hp0 hp1 hp2 hmi hmj hmk hw0 hw1 hi0 hz0 hz1 hz2
    have hat0 : ((w2.alloc (.cells #[.int .i64 (p0 : Int), .int .i64 (p1 : Int), .int .i64 (p2 : Int)] 3)).drew).cell? ⟨w2.heap.size, 0, none⟩ = some (.int .i64 (p0 : Int)) := by
      rw [World.cell?_drew, World.cell?_alloc_at _ _ _ _ rfl]; rfl
    have hat1 : ((w2.alloc (.cells #[.int .i64 (p0 : Int), .int .i64 (p1 : Int), .int .i64 (p2 : Int)] 3)).drew).cell? ⟨w2.heap.size, 1, none⟩ = some (.int .i64 (p1 : Int)) := by
      rw [World.cell?_drew, World.cell?_alloc_at _ _ _ _ rfl]; rfl
    have hat2 : ((w2.alloc (.cells #[.int .i64 (p0 : Int), .int .i64 (p1 : Int), .int .i64 (p2 : Int)] 3)).drew).cell? ⟨w2.heap.size, 2, none⟩ = some (.int .i64 (p2 : Int)) := by
      rw [World.cell?_drew, World.cell?_alloc_at _ _ _ _ rfl]; rfl
    have hoS : ((w2.alloc (.cells #[.int .i64 (p0 : Int), .int .i64 (p1 : Int), .int .i64 (p2 : Int)] 3)).drew).ownsRow w.heap.size 5 1 (.slice (some ⟨g, 0, none⟩) (n + 4) c1) (n + 4) (bts (Crc.sealed l)) := ho1'.alloc _
    have hT : Row (w2.heap.size + 1) ((w2.alloc (.cells #[.int .i64 (p0 : Int), .int .i64 (p1 : Int), .int .i64 (p2 : Int)] 3)).drew) (some ⟨g2, 0, none⟩) (n + 4) 1 (bts (Crc.sealed l)) := (((Row.own ho2).alloc (Nat.le_refl _) _).drew).up (by omega)
    have hbW : Below w.heap.size w ((w2.alloc (.cells #[.int .i64 (p0 : Int), .int .i64 (p1 : Int), .int .i64 (p2 : Int)] 3)).drew) := ((hb1.trans (hb2.mono hb1.size)).alloc (Nat.le_trans hb1.size hs2) _).drew
    have hWs : ((w2.alloc (.cells #[.int .i64 (p0 : Int), .int .i64 (p1 : Int), .int .i64 (p2 : Int)] 3)).drew).heap.size = w2.heap.size + 1 := by simp
    generalize (w2.alloc (.cells #[.int .i64 (p0 : Int), .int .i64 (p1 : Int), .int .i64 (p2 : Int)] 3)).drew = W at *
    obtain ⟨ps, hps⟩ : ∃ ps : List Nat, ps = [p0, p1, p2] := ⟨_, rfl⟩
    have hatk : ∀ t (h : t < ps.length), W.cell? ⟨w2.heap.size, t, none⟩ = some (.int .i64 (ps[t] : Int)) := by
      subst hps
      intro t h
      match t, h with
      | 0, _ => exact hat0
      | 1, _ => exact hat1
      | 2, _ => exact hat2
    have hpsM : ∀ p ∈ ps, p < 8 * (n + 4) := by
      subst hps
      intro p hp
      simp at hp
      omega
    have hpsl : ps.length = 3 := by rw [hps]; rfl
    have HAT := Lib.hid hatk
    have HPM := Lib.hid hpsM
    have HPL := Lib.hid hpsl
    clear hat0 hat1 hat2 hatk hpsM hpsl hps
    obtain ⟨cnt, hcnt, hcnt1, hcnt3⟩ : ∃ cnt : Nat, ((mm : Int) % 3 + 1) = (cnt : Int) ∧ 1 ≤ cnt ∧ cnt ≤ 3 := ⟨mm % 3 + 1, by omega, by omega, by omega⟩
    have hmm256 : mm < 256 := hmm0
    go_loopw [14] (fun i wr => ∃ t : Nat, t ≤ cnt ∧ i = .int .i64 t ∧ wr.ownsRow w.heap.size 5 1 (.slice (some ⟨g, 0, none⟩) (n + 4) c1) (n + 4) (bts (Crc.turnAll (Crc.sealed l) (ps.take t))) ∧ W.grownBy wr (some g)) (fun i _ => cnt - (intOf i).toNat)
    case atStart => exact ⟨0, Nat.zero_le _, rfl, hoS, World.grownBy.refl _ _⟩
    case round =>
      obtain ⟨t, ht, rfl, hown, hgr⟩ := hrel
      by_cases hlt : t < cnt
      · have htl : t < ps.length := by rw [HPL.out]; omega
        have hac : wr.cell? ⟨w2.heap.size, t, none⟩ = some (.int .i64 (ps[t] : Int)) := by
          rw [World.cell?_of_block (w := W) (hgr.block w2.heap.size (by omega) (fun e => by injection e; omega))]
          exact HAT.out t htl
        generalize hbt : Crc.turnAll (Crc.sealed l) (ps.take t) = L at hown
        have hlen : L.length = n + 4 := by rw [← hbt, Crc.turnAll_length, HSL.out]
        have hpM := HPM.out ps[t] (List.getElem_mem htl)
        have HBT := Lib.hid hbt
        clear hbt
        generalize hpp : ps[t] = p at hac hpM
        have HPP := Lib.hid hpp
        clear hpp
        obtain ⟨q, r, hqr, hr8⟩ : ∃ q r : Nat, p = 8 * q + r ∧ r < 8 := ⟨p / 8, p % 8, by omega, by omega⟩
        have hpl : q < L.length := by omega
        have HLEN := Lib.hid hlen
        clear hlen
        have hfz := hown.frozenAt q
        have hco := hown.cellAt q (by have := HLEN.out; omega)
        rw [bts_get, List.getElem?_eq_getElem hpl, Option.map_some] at hco
        have hj3 : q < n + 4 := by omega
        have hj4 : (q : Int) < (n : Int) + 4 := by omega
        have hw2 : (p : Int).tdiv 8 = (q : Int) := by rw [Int.tdiv_eq_ediv_of_nonneg (by omega)]; omega
        have hw3 : IntKind.i64.wrap (q : Int) = (q : Int) := by rw [IntKind.wrap_i64]; omega
        have hw4 : (p : Int).tmod 8 = (r : Int) := by rw [Int.tmod_eq_emod_of_nonneg (by omega)]; omega
        have ht3 : (t : Int) < 3 := by omega
        have HQR := Lib.hid hqr
        clear hqr
        go_wp2
        go_still_tail 16, (by kernel_rfl)
        change wpList _ _ _ _ _ (World.drew wr)
        go_wp2
        go_roundw
        case rel =>
          have hp : p < 8 * L.length := by have := HLEN.out; omega
          have hset := turn_set L p hp
          have e1 : p / 8 = q := by have := HQR.out; omega
          have e2 : p % 8 = r := by have := HQR.out; omega
          simp only [e1, e2] at hset
          have hst := World.ownsRow.stored (w := wr.drew) hown q (Value.int .u8 ((L[q] ^^^ UInt8.ofNat (2 ^ r)).toNat : Int))
          rw [← bts_set, ← hset] at hst
          rw [shl8 r hr8, bits8_xor]
          refine ⟨t + 1, by omega, by go_num, ?_, ?_⟩
          · rw [List.take_succ_eq_append_getElem htl, Crc.turnAll_append, HBT.out, HPP.out]
            exact hst.1
          · exact ⟨hst.2.os.trans hgr.os, hst.2.tape.trans hgr.tape, hst.2.output.trans hgr.output, Nat.le_trans hgr.size hst.2.size, fun x hx hne => (hst.2.block x (Nat.lt_of_lt_of_le hx hgr.size) hne).trans (hgr.block x hx hne)⟩
        case measure => simp [intOf]; omega
      · obtain rfl : t = cnt := by omega
        have hbel : Below w.heap.size w wr := hbW.grown hgr hbW.size (fun x hx => by injection hx with hx; omega)
        have hT1 := hT.far hgr (by omega) (fun a ha => by injection ha with ha; subst ha; show g2 ≠ g; omega)
        have hlenL : (Crc.turnAll (Crc.sealed l) (ps.take t)).length = n + 4 := by rw [Crc.turnAll_length, HSL.out]
        have hfound := Crc.turns_good l (ps.take t) (by rw [HSL.out]; exact fun p hp => HPM.out p (List.mem_of_mem_take hp)) (by rw [List.length_take]; omega) (by rw [HSL.out]; omega)
        rw [HL.out] at hfound
        generalize hbt : Crc.turnAll (Crc.sealed l) (ps.take t) = L at *
        have hsize := hgr.size
        clear hbt HPM HPL HAT
        have hr1 : Row wr.heap.size wr (some ⟨g, 0, none⟩) (n + 4) 1 (bts L) := Row.own hown
        have htS : (Crc.sealed l).take n = l := by have := Crc.sealed_take l; rwa [HL.out] at this
        cases heq : (L == Crc.sealed l)
        · have hgood : (Crc.sealed (L.take n) == L) = false := beq_eq_false_iff_ne.2 (hfound (beq_eq_false_iff_ne.1 heq))
          clear hfound
          go_wp2_with fail
          refine (open_bad _ (n + 4) c1 L wr hc1 hm1 (by omega) (by omega) hr1 hgood).mono ?_
          rintro e w4 ⟨rfl, hb4⟩
          have hcv1 := conv_b (hr1.below hb4) c1
          have hcv2 := conv_b ((hT1.up (B' := wr.heap.size) (by omega)).below hb4) c2
          go_wp2_with fail
          refine (awake_any _).mono ?_
          rintro e w5 ⟨rfl, hb5⟩
          go_wp2
          go_ret
          exact ⟨rfl, hbel.trans ((hb4.mono hbel.size).trans (hb5.mono (Nat.le_trans hbel.size hb4.size)))⟩
        · have hLS := beq_iff_eq.1 heq
          have hgood : (Crc.sealed (L.take n) == L) = true := by rw [hLS, htS]; exact beq_self_eq_true _
          clear hfound
          go_wp2_with fail
          refine (open_good _ (n + 4) c1 L wr hc1 hm1 (by omega) (by omega) hr1 hgood).mono ?_
          rintro e w4 ⟨A4, c4, rfl, ho4, hc4, hm4, hb4⟩
          have hcv1 := conv_b (hr1.below hb4) c1
          have hcv2 := conv_b ((hT1.up (B' := wr.heap.size) (by omega)).below hb4) c2
          have hcv3 := conv_b (Row.own ho4) c4
          rw [Nat.add_sub_cancel, hLS, htS] at hcv3
          have hcv4 := conv_b (hr.below (hbel.trans (hb4.mono hbel.size))) c
          clear hLS
          go_wp2_with fail
          refine (awake_any _).mono ?_
          rintro e w5 ⟨rfl, hb5⟩
          go_wp2
          go_ret
          exact ⟨rfl, hbel.trans ((hb4.mono hbel.size).trans (hb5.mono (Nat.le_trans hbel.size hb4.size)))⟩
end Go.Proofs.Ytmfobogicdeokaa
