/-
  The walk of the law SumParts: it answers true, and changes nothing that was there.
-/
import Derived.Test.YtmfobogicdeokaaSumRest
import Derived.StillTailTactics
import Derived.Deep.RegionWith
import Derived.Deep.DeepCutAuto
import Derived.Test.YtmfobogicdeokaaPlainCrc
namespace Go.Proofs.Ytmfobogicdeokaa
open Go.RowKit

theorem xorl_length (a b : List UInt8) (h : a.length = b.length) : (Crc.xorl a b).length = a.length := by
  induction a generalizing b with
  | nil => cases b <;> rfl
  | cons c l ih => cases b with
    | nil => simp at h
    | cons d m => simp only [Crc.xorl, List.length_cons]; rw [ih m (by simpa using h)]
theorem xorl_get (a b : List UInt8) (k : Nat) (h : a.length = b.length) (ha : k < a.length) (hb : k < b.length) (hx : k < (Crc.xorl a b).length) : (Crc.xorl a b)[k] = a[k] ^^^ b[k] := by
  induction a generalizing b k with
  | nil => simp at ha
  | cons c l ih => cases b with
    | nil => simp at h
    | cons d m =>
      rcases k with _ | k
      · rfl
      · simp only [Crc.xorl, List.getElem_cons_succ]
        exact ih m k (by simpa using h) (by simpa using ha) (by simpa using hb) _

theorem Crc.sum_xor4 (a b c : List UInt8) (h1 : a.length = b.length) (h2 : b.length = c.length) : Crc.sum a ^^^ Crc.sum b ^^^ Crc.sum c ^^^ Crc.sum (Crc.xorl (Crc.xorl a b) c) = 0#32 := by
  have hl : (Crc.xorl a b).length = c.length := by rw [xorl_length a b h1, h1, h2]
  have e1 : Crc.add Crc.ones (Crc.xorl (Crc.xorl a b) c) = Crc.add Crc.ones a ^^^ Crc.add Crc.ones b ^^^ Crc.add Crc.ones c := by
    rw [← Crc.add_xor _ _ _ _ h1, ← Crc.add_xor _ _ _ _ hl, BitVec.xor_self, BitVec.zero_xor]
  unfold Crc.sum
  rw [e1]
  generalize Crc.add Crc.ones a = x
  generalize Crc.add Crc.ones b = y
  generalize Crc.add Crc.ones c = z
  simp only [← BitVec.xor_allOnes]
  apply BitVec.eq_of_getLsbD_eq
  intro i hi
  simp only [BitVec.getLsbD_xor, BitVec.getLsbD_allOnes, BitVec.getLsbD_zero]
  cases x.getLsbD i <;> cases y.getLsbD i <;> cases z.getLsbD i <;> simp [hi]
/-- sum.Of in a later world. -/
theorem of_at {A : Option Addr} {n c : Nat} {l : List UInt8} {V : World} (hr : Row V.heap.size V A n 1 (bts l)) (hn : n ≤ c) (hm : c ≤ maxLen) (W : World) (hb : Below V.heap.size V W) :
    Calls Try.prog 18 #[.slice A n c] W fun e w' => e = .returned (.int .u32 ((Crc.sum l).toNat : Int)) ∧ Below V.heap.size V w' := by
  refine (of_any A n c l W hn hm ((hr.below hb).up hb.size)).mono ?_
  rintro e w' ⟨rfl, hb'⟩
  exact ⟨rfl, hb.trans (hb'.mono hb.size)⟩
theorem parts_cut {A : Option Addr} {k j c : Nat} {l : List UInt8} {V : World} (hr : Row V.heap.size V A k 1 (bts l)) (hj : j ≤ k) (hn : k ≤ c) (hm : c ≤ maxLen) (hl : l.length = k) (_hk : k ≤ 9223372036854775807) (W : World) (hb : Below V.heap.size V W) :
    Calls Try.prog 16 #[.slice (some ⟨W.heap.size, 0, none⟩) 2 2] (W.alloc (.cells #[.slice A j c, .slice (if c = j then A else A.map fun x => x.add j) (k - j) (c - j)] 22)) fun e w' => e = .returned (.int .u32 ((Crc.sum l).toNat : Int)) ∧ Below V.heap.size V w' := by
  have h0 : Row V.heap.size V A j 1 (bts (l.take j)) := by
    have := hr.pre hj
    rwa [Nat.mul_one, ← bts_take] at this
  have h1 : Row V.heap.size V (if c = j then A else A.map fun x => x.add j) (k - j) 1 (bts (l.drop j)) := by
    have := hr.cut (k := j) (m := k) hj (Nat.le_refl _) (A' := if c = j then A else A.map fun x => x.add j) (fun h => by rw [if_neg (by omega), Nat.mul_one])
    rw [Nat.mul_one, Nat.mul_one, ← bts_drop, ← bts_take, List.take_of_length_le (by rw [List.length_drop]; omega)] at this
    exact this
  have hs := hb.size
  have h3 : Rows2 (W.alloc (.cells #[.slice A j c, .slice (if c = j then A else A.map fun x => x.add j) (k - j) (c - j)] 22)).heap.size (W.alloc (.cells #[.slice A j c, .slice (if c = j then A else A.map fun x => x.add j) (k - j) (c - j)] 22)) (some ⟨W.heap.size, 0, none⟩) 2 [l.take j, l.drop j] := by
    refine ⟨_, (Row.new W #[.slice A j c, .slice (if c = j then A else A.map fun x => x.add j) (k - j) (c - j)] 22 (n := 2) (size := 1) rfl).up (by simp), rfl, fun i hi => ?_⟩
    match i, hi with
    | 0, _ => exact ⟨A, j, c, rfl, by omega, hm, (((h0.below hb).up hs).alloc (Nat.le_refl _) _).up (by simp)⟩
    | 1, _ => exact ⟨_, k - j, c - j, rfl, by omega, by omega, (((h1.below hb).up hs).alloc (Nat.le_refl _) _).up (by simp)⟩
  refine (parts_any _ 2 2 _ _ (by omega) h3).mono ?_
  rintro e w' ⟨rfl, rfl⟩
  exact ⟨ret_eq (int_eq (by simp)), hb.alloc hs _⟩
theorem Row.pre1 {B n : Nat} {w : World} {A : Option Addr} {l : List UInt8} (h : Row B w A n 1 (bts l)) {m : Nat} (hm : m ≤ n) : Row B w A m 1 (bts (l.take m)) := by
  have := h.pre hm
  rwa [Nat.mul_one, ← bts_take] at this

set_option maxHeartbeats 4000000 in
theorem sumParts_walk (A1 A2 A3 : Option Addr) (n1 c1 n2 c2 n3 c3 : Nat) (l1 l2 l3 : List UInt8) (at_ : Int) (w : World) (hn1 : n1 ≤ c1) (hm1 : c1 ≤ maxLen) (hr1 : Row w.heap.size w A1 n1 1 (bts l1)) (hn2 : n2 ≤ c2) (hm2 : c2 ≤ maxLen) (hr2 : Row w.heap.size w A2 n2 1 (bts l2))
    (hn3 : n3 ≤ c3) (hm3 : c3 ≤ maxLen) (hr3 : Row w.heap.size w A3 n3 1 (bts l3)) :
    Calls Try.prog 7 #[.slice A1 n1 c1, .slice A2 n2 c2, .slice A3 n3 c3, .int .i64 at_] w fun e w' => e = .returned (.bool true) ∧ Below w.heap.size w w' := by
  have k1 : c1 ≤ 9223372036854775807 := hm1
  have k2 : c2 ≤ 9223372036854775807 := hm2
  have k3 : c3 ≤ 9223372036854775807 := hm3
  obtain ⟨N, hN1, hN2, hN3, hN4, hmin⟩ : ∃ N : Nat, N ≤ n1 ∧ N ≤ n2 ∧ N ≤ n3 ∧ N ≤ 2000 ∧ ∀ W : World, (Builtin.min_ #[3, 3, 3, 3] 3 #[.int .i64 (n1 : Int), .int .i64 (n2 : Int), .int .i64 (n3 : Int), .int .i64 2000]).run Try.prog W = .ok (.int .i64 (N : Int)) W := by
    refine ⟨min (min (min n1 n2) n3) 2000, by omega, by omega, by omega, by omega, fun W => ?_⟩
    simp only [Builtin.min_, Builtin.min2, List.foldlM_cons, List.foldlM_nil, pure_bind]
    rw [Sem.run_pure]
    congr 2
    split <;> split <;> split <;> omega
  obtain ⟨mk, hmask, hmk0⟩ := and_mask at_ 16 (by omega)
  rw [show ((2 ^ 16 - 1 : Nat) : Int) = 65535 from rfl] at hmask
  obtain ⟨i0, hi0, hz0, hz1, hz2⟩ := info_parts info_u8
  obtain ⟨cs, hcs, hmk⟩ := make1 (P := Try.prog) 22 5 i0 _ Try.underlying22 hi0 hz0 hz1 rfl N (by rw [hz2]; omega) (by omega)
  have e1 := hr1.btlen
  have e2 := hr2.btlen
  have e3 := hr3.btlen
  obtain ⟨X, hX⟩ : ∃ X, X = Crc.xorl (Crc.xorl (l1.take N) (l2.take N)) (l3.take N) := ⟨_, rfl⟩
  have hL : (Crc.xorl (l1.take N) (l2.take N)).length = N := by rw [xorl_length _ _ (by simp; omega)]; simp; omega
  have hXl : X.length = N := by rw [hX, xorl_length _ _ (by rw [hL]; simp; omega), hL]
  have hXg : Hid (∀ k (h1 : k < l1.length) (h2 : k < l2.length) (h3 : k < l3.length) (h : k < X.length), X[k] = l1[k] ^^^ l2[k] ^^^ l3[k]) := by
    intro k h1 h2 h3 h
    subst hX
    have hk : k < N := by omega
    rw [xorl_get _ _ k (by rw [hL]; simp; omega) (by omega) (by simp; omega) h, xorl_get _ _ k (by simp; omega) (by simp; omega) (by simp; omega) (by omega)]
    simp
  have HX := Lib.hid hX
  have HXl := Lib.hid hXl
  have hXl' : X.length ≤ N := by omega
  have hXl2 : N ≤ X.length := by omega
  have E := Lib.hid (And.intro e1 (And.intro e2 e3))
  clear hX hXl e1 e2 e3 hL
  go_enter Try.func7, Try.ntmps7
  go_wp2_with fail
  go_loopw [11] (fun i wr => ∃ k : Nat, k ≤ N ∧ i = .int .i64 k ∧ wr.ownsRow w.heap.size 5 1 (.slice (some ⟨w.heap.size, 0, none⟩) N N) N ((bts X).take k ++ List.replicate (N - k) (Value.int .u8 0)) ∧ Below w.heap.size w wr) (fun i _ => N - (intOf i).toNat)
  case atStart =>
    refine ⟨0, Nat.zero_le _, rfl, ?_, (Below.refl _ _).alloc (Nat.le_refl _) _⟩
    have := World.ownsRow_lit (base := w.heap.size) (e := 5) (size := 1) w cs N (Nat.le_refl _) (by unfold maxLen; omega) (by have := congrArg List.length hcs; simpa using this)
    rw [hcs] at this
    simpa using this
  case round =>
    obtain ⟨k, hk, rfl, hown, hbel⟩ := hrel
    by_cases hlt : k < N
    · obtain ⟨a1, g1, rfl, _, hc1⟩ := (hr1.below hbel).bt (show k < n1 by omega)
      obtain ⟨a2, g2, rfl, _, hc2⟩ := (hr2.below hbel).bt (show k < n2 by omega)
      obtain ⟨a3, g3, rfl, _, hc3⟩ := (hr3.below hbel).bt (show k < n3 by omega)
      have hfz := hown.frozenAt k
      have hco := hown.cellAt k (by omega)
      have hlen : k < ((bts X).take k ++ List.replicate (N - k) (Value.int .u8 0)).length := by simp [bts_length]; omega
      rw [List.getElem?_eq_getElem hlen] at hco
      generalize ((bts X).take k ++ List.replicate (N - k) (Value.int .u8 0))[k] = old at hco
      clear hmin hmk
      have hk1 : k < n1 := by omega
      have hk2 : k < n2 := by omega
      have hk3 : k < n3 := by omega
      go_wp2
      go_still_tail 17, (by kernel_rfl)
      change wpList _ _ _ _ _ (World.drew wr)
      go_wp2
      go_roundw
      case rel =>
        refine ⟨k + 1, by omega, by go_num, ?_, ((hbel.drew).setCell (Nat.le_refl _) _)⟩
        have hst := (World.ownsRow.stored (w := wr.drew) hown k (Value.int .u8 ((X[k]'(by omega)).toNat : Int))).1
        have hf := fill_set (xs := bts X) (N := N) (k := k) (by rw [bts_length]; exact HXl.out) hlt (Value.int .u8 0)
        have hb : (bts X)[k]'(by rw [bts_length]; omega) = Value.int .u8 ((X[k]'(by omega)).toNat : Int) := by simp [bts]
        rw [hb] at hf
        rw [hf] at hst
        rw [bits8_xor, bits8_xor, ← hXg.out k g1 g2 g3 (by omega)]
        exact hst
      case measure => simp [intOf]; omega
    · obtain rfl : k = N := by omega
      rw [Nat.sub_self, List.replicate_zero, List.append_nil, List.take_of_length_le (by rw [bts_length]; omega)] at hown
      clear hmin hmk
      obtain ⟨j, hq1, hjk⟩ : ∃ j : Nat, ((mk : Int) % ((k : Int) + 1)) = (j : Int) ∧ j ≤ k := ⟨mk % (k + 1), by rw [Int.natCast_emod]; rfl, by have := Nat.mod_lt mk (show 0 < k + 1 by omega); omega⟩
      have hjk' : (j : Int) ≤ (k : Int) := by omega
      go_wp2
      try simp only [hq1]
      have hkc1 : k ≤ c1 := by omega
      have hkc2 : k ≤ c2 := by omega
      have hkc3 : k ≤ c3 := by omega
      have hjc1 : j ≤ c1 := by omega
      have r1 := ((hr1.below hbel).up hbel.size).pre1 hN1
      have r2 := ((hr2.below hbel).up hbel.size).pre1 hN2
      have r3 := ((hr3.below hbel).up hbel.size).pre1 hN3
      have r4 := Row.own hown
      have hb0 : Below wr.heap.size wr wr.drew := (Below.refl _ _).drew
      have hkm : k ≤ maxLen := Nat.le_trans hkc1 hm1
      have hxx : (bits .xor .u32 (bits .xor .u32 (bits .xor .u32 ((Crc.sum (l1.take k)).toNat : Int) ((Crc.sum (l2.take k)).toNat : Int)) ((Crc.sum (l3.take k)).toNat : Int)) ((Crc.sum X).toNat : Int) == 0) = true := by
        have hl1 : (l1.take k).length = (l2.take k).length := by rw [r1.btlen, r2.btlen]
        have hl2 : (l2.take k).length = (l3.take k).length := by rw [r2.btlen, r3.btlen]
        rw [HX.out, bits32_xor, bits32_xor, bits32_xor, Crc.sum_xor4 _ _ _ hl1 hl2]
        rfl
      have hlk : (l1.take k).length = k := r1.btlen
      have hkk : k ≤ 9223372036854775807 := by omega
      clear hmask hmk0 hq1 hcs hk hlt hr1 hr2 hr3 hn1 hn2 hn3 hN1 hN2 hN3 hN4 hjk' hXl' hXl2 hXg k1 k2 k3 hown i0 hi0 hz0 hz1 hz2
      have HLK := Lib.hid hlk
      clear hlk
      refine wp_region_any (by kernel_rfl) ?_
      change wpAny _ _ _ _ _ _ _ (World.drew _)
      refine wpAny_take (i := 0) (v := ?v0) rfl (by kernel_rfl) (by kernel_rfl) (by kernel_rfl) (fun _ _ _ h => h) (Or.inl ⟨by rfl, ?h0⟩) ?k0
      case h0 => (intro w; go_simp; try (with_reducible rfl))
      go_simp
      refine wpAny_take (i := 1) (v := ?v1) rfl (by kernel_rfl) (by kernel_rfl) (by kernel_rfl) (fun _ _ _ h => h) (Or.inl ⟨by rfl, ?h1⟩) ?k1
      case h1 => (intro w; go_simp; try (with_reducible rfl))
      go_simp
      refine wpAny_take (i := 2) (v := ?v2) rfl (by kernel_rfl) (by kernel_rfl) (by kernel_rfl) (fun _ _ _ h => h) (Or.inl ⟨by rfl, ?h2⟩) ?k2
      case h2 => (intro w; go_simp; try (with_reducible rfl))
      go_simp
      refine wpAny_take (i := 4) (v := ?v4) rfl (by kernel_rfl) (by kernel_rfl) (by kernel_rfl) (fun _ _ _ h => h) (Or.inl ⟨by rfl, ?h4⟩) ?k4
      case h4 => (intro w; go_simp; try (with_reducible rfl))
      go_simp
      refine wpAny_take (i := 5) (v := ?v5) rfl (by kernel_rfl) (by kernel_rfl) (by kernel_rfl) (fun _ _ _ h => h) (Or.inl ⟨by rfl, ?h5⟩) ?k5
      case h5 => (intro w; go_simp; try (with_reducible rfl))
      go_simp
      refine wpAny_take (i := 6) (v := ?v6) rfl (by kernel_rfl) (by kernel_rfl) (by kernel_rfl) (fun _ _ _ h => h) (Or.inl ⟨by rfl, ?h6⟩) ?k6
      case h6 => (intro w; go_simp; try (with_reducible rfl))
      go_simp
      refine wpAny_take (i := 9) (v := ?v9) rfl (by kernel_rfl) (by kernel_rfl) (by kernel_rfl) (fun _ _ _ h => h) (Or.inl ⟨by rfl, ?h9⟩) ?k9
      case h9 => (intro w; go_simp; try (with_reducible rfl))
      go_simp
      refine wpAny_take (i := 10) (v := ?v10) rfl (by kernel_rfl) (by kernel_rfl) (by kernel_rfl) (fun _ _ _ h => h) (Or.inl ⟨by rfl, ?h10⟩) ?k10
      case h10 => (intro w; go_simp; try (with_reducible rfl))
      go_simp
      refine wpAny_take (i := 11) (v := ?v11) rfl (by kernel_rfl) (by kernel_rfl) (by kernel_rfl) (fun _ _ _ h => h) (Or.inl ⟨by rfl, ?h11⟩) ?k11
      case h11 => (intro w; go_simp; try (with_reducible rfl))
      go_simp
      refine wpAny_take (i := 14) (v := ?v14) rfl (by kernel_rfl) (by kernel_rfl) (by kernel_rfl) (fun _ _ _ h => h) (Or.inl ⟨by rfl, ?h14⟩) ?k14
      case h14 => (intro w; go_simp; try (with_reducible rfl))
      go_simp
      refine wpAny_ready (rs := [3]) (by kernel_rfl) (by simp) ?_
      refine AllReady.cons rfl (fun K hK => ?_) AllReady.nil
      go_simp
      refine (of_at r1 hkc1 hm1 _ (by assumption)).mono ?_
      rintro e w1 ⟨rfl, hbW⟩
      refine hK _ _ ?_
      clear hK K
      refine wpAny_ready (rs := [7]) (by kernel_rfl) (by simp) ?_
      refine AllReady.cons rfl (fun K hK => ?_) AllReady.nil
      go_simp
      refine (of_at r2 hkc2 hm2 _ (by assumption)).mono ?_
      rintro e w1 ⟨rfl, hbW⟩
      refine hK _ _ ?_
      clear hK K
      refine wpAny_take (i := 8) (v := ?v8) rfl (by kernel_rfl) (by kernel_rfl) (by kernel_rfl) (fun _ _ _ h => h) (Or.inl ⟨by rfl, ?h8⟩) ?k8
      case h8 => (intro w; go_simp; try (with_reducible rfl))
      go_simp
      refine wpAny_ready (rs := [12]) (by kernel_rfl) (by simp) ?_
      refine AllReady.cons rfl (fun K hK => ?_) AllReady.nil
      go_simp
      refine (of_at r3 hkc3 hm3 _ (by assumption)).mono ?_
      rintro e w1 ⟨rfl, hbW⟩
      refine hK _ _ ?_
      clear hK K
      refine wpAny_take (i := 13) (v := ?v13) rfl (by kernel_rfl) (by kernel_rfl) (by kernel_rfl) (fun _ _ _ h => h) (Or.inl ⟨by rfl, ?h13⟩) ?k13
      case h13 => (intro w; go_simp; try (with_reducible rfl))
      go_simp
      refine wpAny_ready (rs := [15]) (by kernel_rfl) (by simp) ?_
      refine AllReady.cons rfl (fun K hK => ?_) AllReady.nil
      go_simp
      refine (of_at r4 (Nat.le_refl _) hkm _ (by assumption)).mono ?_
      rintro e w1 ⟨rfl, hbW⟩
      refine hK _ _ ?_
      clear hK K
      refine wpAny_take (i := 16) (v := ?v16) rfl (by kernel_rfl) (by kernel_rfl) (by kernel_rfl) (fun _ _ _ h => h) (Or.inl ⟨by rfl, ?h16⟩) ?k16
      case h16 => (intro w; go_simp; try (with_reducible rfl))
      go_simp
      refine wpAny_take (i := 17) (v := ?v17) rfl (by kernel_rfl) (by kernel_rfl) (by kernel_rfl) (fun _ _ _ h => h) (Or.inl ⟨by rfl, ?h17⟩) ?k17
      case h17 => (intro w; go_simp; try (with_reducible rfl))
      go_simp
      refine wpAny_take (i := 18) (v := ?v18) rfl (by kernel_rfl) (by kernel_rfl) (by kernel_rfl) (fun _ _ _ h => h) (Or.inl ⟨by rfl, ?h18⟩) ?k18
      case h18 => (intro w; go_simp; try (with_reducible rfl))
      go_simp
      refine wpAny_take (i := 19) (v := ?v19) rfl (by kernel_rfl) (by kernel_rfl) (by kernel_rfl) (fun _ _ _ h => h) (Or.inl ⟨by rfl, ?h19⟩) ?k19
      case h19 => (intro w; go_simp; try (with_reducible rfl))
      go_simp
      refine wpAny_take (i := 20) (v := ?v20) rfl (by kernel_rfl) (by kernel_rfl) (by kernel_rfl) (fun _ _ _ h => h) (Or.inl ⟨by rfl, ?h20⟩) ?k20
      case h20 => (intro w; go_simp; try (with_reducible rfl))
      go_simp
      refine wpAny_take (i := 21) (v := ?v21) rfl (by kernel_rfl) (by kernel_rfl) (by kernel_rfl) (fun _ _ _ h => h) (Or.inl ⟨by rfl, ?h21⟩) ?k21
      case h21 => (intro w; go_simp; try (with_reducible rfl))
      go_simp
      refine wpAny_take (i := 22) (v := ?v22) rfl (by kernel_rfl) (by kernel_rfl) (by kernel_rfl) (fun _ _ _ h => h) (Or.inl ⟨by rfl, ?h22⟩) ?k22
      case h22 => (intro w; go_simp; try (with_reducible rfl))
      go_simp
      refine wpAny_take (i := 23) (v := ?v23) rfl (by kernel_rfl) (by kernel_rfl) (by kernel_rfl) (fun _ _ _ h => h) (Or.inl ⟨by rfl, ?h23⟩) ?k23
      case h23 => (intro w; go_simp; try (with_reducible rfl))
      go_simp
      refine wpAny_take (i := 24) (v := ?v24) rfl (by kernel_rfl) (by kernel_rfl) (by kernel_rfl) (fun _ _ _ h => h) (Or.inl ⟨by rfl, ?h24⟩) ?k24
      case h24 => (intro w; go_simp; try (with_reducible rfl))
      go_simp
      refine wpAny_take (i := 25) (v := ?v25) rfl (by kernel_rfl) (by kernel_rfl) (by kernel_rfl) (fun _ _ _ h => h) (Or.inl ⟨by rfl, ?h25⟩) ?k25
      case h25 => (intro w; go_simp; try (with_reducible rfl))
      go_simp
      refine wpAny_take (i := 28) (v := ?v28) rfl (by kernel_rfl) (by kernel_rfl) (by kernel_rfl) (fun _ _ _ h => h) (Or.inl ⟨by rfl, ?h28⟩) ?k28
      case h28 => (intro w; go_simp; try (with_reducible rfl))
      go_simp
      refine wpAny_take (i := 29) (v := ?v29) rfl (by kernel_rfl) (by kernel_rfl) (by kernel_rfl) (fun _ _ _ h => h) (Or.inl ⟨by rfl, ?h29⟩) ?k29
      case h29 => (intro w; go_simp; try (with_reducible rfl))
      go_simp
      refine wpAny_take (i := 30) (v := ?v30) rfl (by kernel_rfl) (by kernel_rfl) (by kernel_rfl) (fun _ _ _ h => h) (Or.inl ⟨by rfl, ?h30⟩) ?k30
      case h30 => (intro w; go_simp; try (with_reducible rfl))
      go_simp
      refine wpAny_ready (rs := [26]) (by kernel_rfl) (by simp) ?_
      refine AllReady.cons rfl (fun K hK => ?_) AllReady.nil
      go_simp
      refine hK _ _ ?_
      clear hK K
      refine wpAny_ready (rs := [27]) (by kernel_rfl) (by simp) ?_
      refine AllReady.cons rfl (fun K hK => ?_) AllReady.nil
      go_simp
      refine (parts_cut r1 hjk hkc1 hm1 HLK.out hkk _ hbW).mono ?_
      rintro e w2 ⟨rfl, hbW2⟩
      refine hK _ _ ?_
      clear hK K
      refine wpAny_ready (rs := [31]) (by kernel_rfl) (by simp) ?_
      refine AllReady.cons rfl (fun K hK => ?_) AllReady.nil
      go_simp
      refine (of_at r1 hkc1 hm1 _ (by assumption)).mono ?_
      rintro e w3 ⟨rfl, hbW3⟩
      refine hK _ _ ?_
      clear hK K
      refine wpAny_take (i := 32) (v := ?v32) rfl (by kernel_rfl) (by kernel_rfl) (by kernel_rfl) (fun _ _ _ h => h) (Or.inl ⟨by rfl, ?h32⟩) ?k32
      case h32 => (intro w; go_simp; try (with_reducible rfl))
      go_simp
      refine wpAny_take (i := 33) (v := ?v33) rfl (by kernel_rfl) (by kernel_rfl) (by kernel_rfl) (fun _ _ _ h => h) (Or.inl ⟨by rfl, ?h33⟩) ?k33
      case h33 => (intro w; go_simp; try (with_reducible rfl))
      go_simp
      refine wpAny_take (i := 34) (v := ?v34) rfl (by kernel_rfl) (by kernel_rfl) (by kernel_rfl) (fun _ _ _ h => h) (Or.inl ⟨by rfl, ?h34⟩) ?k34
      case h34 => (intro w; go_simp; try (with_reducible rfl))
      go_simp
      refine wpAny_ready (rs := [35]) (by kernel_rfl) (by simp) ?_
      refine AllReady.cons rfl (fun K hK => ?_) AllReady.nil
      go_simp
      refine (awake_any _).mono ?_
      rintro e w4 ⟨rfl, hbW4⟩
      refine hK _ _ ?_
      clear hK K
      refine wpAny_take (i := 36) (v := ?v36) rfl (by kernel_rfl) (by kernel_rfl) (by kernel_rfl) (fun _ _ _ h => h) (Or.inl ⟨by rfl, ?h36⟩) ?k36
      case h36 => (intro w; go_simp; try (with_reducible rfl))
      go_simp
      refine wpAny_take (i := 37) (v := ?v37) rfl (by kernel_rfl) (by kernel_rfl) (by kernel_rfl) (fun _ _ _ h => h) (Or.inl ⟨by rfl, ?h37⟩) ?k37
      case h37 => (intro w; go_simp; try (with_reducible rfl))
      go_simp
      refine wpAny_done (by kernel_rfl) ?_ _
      go_wp2
      all_goals go_ret
      all_goals exact ⟨rfl, hbel.trans ((hbW3.trans (hbW4.mono hbW3.size)).mono hbel.size)⟩
end Go.Proofs.Ytmfobogicdeokaa
