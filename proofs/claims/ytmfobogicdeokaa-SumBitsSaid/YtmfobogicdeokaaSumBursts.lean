/-
  The walk of the law SumBursts: it answers true, and changes nothing that was there.
-/
import Derived.Test.YtmfobogicdeokaaSumRest
import Derived.Test.YtmfobogicdeokaaPlainBursts
import Derived.StillTailTactics
namespace Go.Proofs.Ytmfobogicdeokaa
open Go.RowKit

theorem turn_set (l : List UInt8) (p : Nat) (hp : p < 8 * l.length) : Crc.turn l p = l.set (p / 8) (l[p / 8]'(by omega) ^^^ UInt8.ofNat (2 ^ (p % 8))) := by
  induction l generalizing p with
  | nil => simp at hp
  | cons c l ih =>
    rw [Crc.turn_cons]
    by_cases h : p < 8
    · have h0 : p / 8 = 0 := by omega
      have h1 : p % 8 = p := by omega
      rw [if_pos h]
      simp only [h0, h1, List.set_cons_zero, List.getElem_cons_zero]
    · have h0 : p / 8 = (p - 8) / 8 + 1 := by omega
      have h1 : p % 8 = (p - 8) % 8 := by omega
      rw [if_neg h, ih (p - 8) (by rw [List.length_cons] at hp; omega)]
      simp only [h0, h1, List.set_cons_succ, List.getElem_cons_succ]
theorem shl8 (r : Nat) (hr : r < 8) : ((2 : Int) ^ r % 256) = ((UInt8.ofNat (2 ^ r)).toNat : Int) := by
  match r, hr with
  | 0, _ => decide
  | 1, _ => decide
  | 2, _ => decide
  | 3, _ => decide
  | 4, _ => decide
  | 5, _ => decide
  | 6, _ => decide
  | 7, _ => decide
theorem bts_set (l : List UInt8) (k : Nat) (c : UInt8) : bts (l.set k c) = (bts l).set k (.int .u8 (c.toNat : Int)) := by simp [bts]

theorem bit_test32 (x : BitVec 32) (j : Nat) : bits .and .u32 ((x.toNat : Int) / 2 ^ j) 1 = if x.getLsbD j = true then 1 else 0 := by
  have h1 : ((x.toNat : Int) / 2 ^ j) = ((x >>> j).toNat : Int) := by
    rw [BitVec.toNat_ushiftRight, Nat.shiftRight_eq_div_pow, Int.natCast_ediv, Int.natCast_pow]
    rfl
  have h2 : bits .and .u32 ((x >>> j).toNat : Int) 1 = (((x >>> j) &&& 1#32).toNat : Int) := bits32_and (x >>> j) 1#32
  rw [h1, h2, BitVec.toNat_and]
  simp only [BitVec.toNat_ofNat, Nat.reducePow, Nat.one_mod]
  rw [Nat.and_one_is_mod, BitVec.toNat_ushiftRight, Nat.shiftRight_eq_div_pow]
  have h3 : x.getLsbD j = decide (x.toNat / 2 ^ j % 2 = 1) := by
    rw [BitVec.getLsbD, Nat.testBit_eq_decide_div_mod_eq]
  rw [h3]
  by_cases h : x.toNat / 2 ^ j % 2 = 1
  · simp [h]
  · have : x.toNat / 2 ^ j % 2 = 0 := by omega
    simp [this]


set_option maxHeartbeats 400000 in
theorem sumBursts_walk (A : Option Addr) (n c : Nat) (l : List UInt8) (at_ : Int) (x : BitVec 32) (w : World) (hn : n ≤ c) (hm : c ≤ maxLen) (hr : Row w.heap.size w A n 1 (bts l)) :
    Calls Try.prog 6 #[.slice A n c, .int .i64 at_, .int .u32 (x.toNat : Int)] w fun e w' => e = .returned (.bool true) ∧ Below w.heap.size w w' := by
  have hm' : c ≤ 9223372036854775807 := hm
  by_cases h3 : 3000 < n
  · go_enter Try.func6, Try.ntmps6
    go_wp2_with (go_at_call 15; refine (awake_any _).mono ?_; rintro e w' ⟨rfl, hb⟩)
    go_ret
    exact ⟨rfl, hb⟩
  · obtain ⟨mk, hmask, hmk0⟩ := and_mask at_ 24 (by omega)
    rw [show ((2 ^ 24 - 1 : Nat) : Int) = 16777215 from rfl] at hmask
    have hx0 : 0 ≤ (x.toNat : Int) := by omega
    have hx1 : (x.toNat : Int) ≤ 4294967295 := by have := x.isLt; omega
    obtain ⟨k, hq1, hkM⟩ : ∃ k : Nat, ((mk : Int) % (8 * ((n : Int) + 4))) = (k : Int) ∧ k < 8 * (n + 4) := ⟨mk % (8 * (n + 4)), by rw [Int.natCast_emod]; rfl, Nat.mod_lt _ (by omega)⟩
    have hl := hr.btlen
    have hsl : (Crc.sealed l).length = n + 4 := by rw [Crc.sealed_length, hl]
    have HSL := Lib.hid hsl
    have HL := Lib.hid hl
    clear hl hsl
    go_enter Try.func6, Try.ntmps6
    go_wp2_with fail
    refine (seal_any A n c l w hn hm (by omega) hr).mono ?_
    rintro e w1 ⟨A1, c1, rfl, ho1, hc1, hm1, hb1⟩
    obtain ⟨g, cap, hA1, hcap, hglt⟩ := ho1.form (by omega)
    injection hA1 with hA1 _ hA2
    subst hA1
    subst hA2
    go_wp2
    try simp only [hq1]
    go_loopw [9, 10] (fun t i wr => ∃ j : Nat, j ≤ 32 ∧ i = .int .i64 j ∧ t = .bool (Crc.burstT k (8 * (n + 4)) x j) ∧ wr.ownsRow w.heap.size 5 1 (.slice (some ⟨g, 0, none⟩) (n + 4) c1) (n + 4) (bts (Crc.burst (Crc.sealed l) k (8 * (n + 4)) x j)) ∧ Below w.heap.size w wr) (fun _ i _ => 32 - (intOf i).toNat)
    case atStart => exact ⟨0, Nat.zero_le _, rfl, rfl, ho1, hb1⟩
    case round =>
      obtain ⟨j, hj, rfl, rfl, hown, hbel⟩ := hrel
      by_cases hlt : j < 32
      · generalize hbt : Crc.burst (Crc.sealed l) k (8 * (n + 4)) x j = L at hown
        have hlen : L.length = n + 4 := by rw [← hbt, Crc.burst_length, HSL.out]
        have HLEN := Lib.hid hlen
        have HBT := Lib.hid hbt
        clear hlen hbt
        generalize htt : Crc.burstT k (8 * (n + 4)) x j = T
        have HTT := Lib.hid htt
        clear htt
        clear hmask hq1 hr HL HSL ho1
        have hbt1 := bit_test32 x j
        cases hbit : x.getLsbD j
        · rw [hbit, if_neg (by simp)] at hbt1
          go_wp2
          go_roundw
          case rel => exact ⟨j + 1, by omega, by go_num, by rw [Crc.burstT, hbit, HTT.out]; rfl, by rw [Crc.burst, hbit, HBT.out]; exact hown, hbel⟩
          case measure => simp [intOf]; omega
        rw [hbit, if_pos rfl] at hbt1
        by_cases hin : k + j < 8 * (n + 4)
        · obtain ⟨q, r, hqr, hr8⟩ : ∃ q r : Nat, k + j = 8 * q + r ∧ r < 8 := ⟨(k + j) / 8, (k + j) % 8, by omega, by omega⟩
          have hpl : q < L.length := by have := HLEN.out; omega
          have hfz := hown.frozenAt q
          have hco := hown.cellAt q (by omega)
          rw [bts_get, List.getElem?_eq_getElem hpl, Option.map_some] at hco
          have hj3 : q < n + 4 := by omega
          have hj4 : (q : Int) < (n : Int) + 4 := by omega
          have hw1 : IntKind.i64.wrap ((k : Int) + (j : Int)) = (k : Int) + (j : Int) := by rw [IntKind.wrap_i64]; omega
          have hw2 : ((k : Int) + (j : Int)).tdiv 8 = (q : Int) := by rw [Int.tdiv_eq_ediv_of_nonneg (by omega)]; omega
          have hw3 : IntKind.i64.wrap (q : Int) = (q : Int) := by rw [IntKind.wrap_i64]; omega
          have hw4 : ((k : Int) + (j : Int)).tmod 8 = (r : Int) := by rw [Int.tmod_eq_emod_of_nonneg (by omega)]; omega
          have HQR := Lib.hid hqr
          clear hqr
          go_wp2
          go_still_tail 14, (by kernel_rfl)
          change wpList _ _ _ _ _ (World.drew wr)
          go_wp2
          go_roundw
          case rel =>
            have hp : k + j < 8 * L.length := by have := HLEN.out; omega
            have hset := turn_set L (k + j) hp
            have e1 : (k + j) / 8 = q := by have := HQR.out; omega
            have e2 : (k + j) % 8 = r := by have := HQR.out; omega
            simp only [e1, e2] at hset
            have hst := (World.ownsRow.stored (w := wr.drew) hown q (Value.int .u8 ((L[q] ^^^ UInt8.ofNat (2 ^ r)).toNat : Int))).1
            rw [← bts_set, ← hset] at hst
            refine ⟨j + 1, by omega, by go_num, by rw [Crc.burstT, hbit, decide_eq_true hin]; rfl, ?_, (hbel.drew).setCell hcap _⟩
            rw [Crc.burst, hbit, decide_eq_true hin, HBT.out, Bool.true_and, if_pos rfl, shl8 r hr8, bits8_xor]
            exact hst
          case measure => simp [intOf]; omega
        · have hin' : ¬ ((k : Int) + (j : Int) < 8 * ((n : Int) + 4)) := by omega
          go_wp2
          go_roundw
          case rel => exact ⟨j + 1, by omega, by go_num, by rw [Crc.burstT, hbit, HTT.out, decide_eq_false hin]; rfl, by rw [Crc.burst, hbit, HBT.out, decide_eq_false hin]; exact hown, hbel⟩
          case measure => simp [intOf]; omega
      · obtain rfl : j = 32 := by omega
        have hgood := Crc.burst_good l k x
        rw [HSL.out, HL.out] at hgood
        generalize hbt : Crc.burst (Crc.sealed l) k (8 * (n + 4)) x 32 = L at *
        generalize htt : Crc.burstT k (8 * (n + 4)) x 32 = T at *
        clear hmask hq1 hbt htt
        have hr1 : Row wr.heap.size wr (some ⟨g, 0, none⟩) (n + 4) 1 (bts L) := Row.own hown
        cases T
        · go_wp2_with fail
          refine (open_good _ (n + 4) c1 L wr hc1 hm1 (by omega) (by omega) hr1 (by simpa using hgood)).mono ?_
          rintro e w2 ⟨A2, c2, rfl, _, _, _, hb2⟩
          go_wp2_with fail
          refine (awake_any _).mono ?_
          rintro e w3 ⟨rfl, hb3⟩
          go_wp2
          go_ret
          exact ⟨rfl, hbel.trans ((hb2.mono hbel.size).trans (hb3.mono (Nat.le_trans hbel.size hb2.size)))⟩
        · go_wp2_with fail
          refine (open_bad _ (n + 4) c1 L wr hc1 hm1 (by omega) (by omega) hr1 (by simpa using hgood)).mono ?_
          rintro e w2 ⟨rfl, hb2⟩
          go_wp2_with fail
          refine (awake_any _).mono ?_
          rintro e w3 ⟨rfl, hb3⟩
          go_wp2
          go_ret
          exact ⟨rfl, hbel.trans ((hb2.mono hbel.size).trans (hb3.mono (Nat.le_trans hbel.size hb2.size)))⟩
end Go.Proofs.Ytmfobogicdeokaa
