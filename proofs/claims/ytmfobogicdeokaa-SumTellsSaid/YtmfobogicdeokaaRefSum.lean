/-
  The walks of the document's own sums: clepsydraref1.Sum, Hash, Seal, Open, Eight, Mix; and sum.Mix.
-/
import Derived.Test.YtmfobogicdeokaaSumD
import Derived.Test.YtmfobogicdeokaaPlainCrc
import Derived.StillTailTactics
namespace Go.Proofs.Ytmfobogicdeokaa
open Go.RowKit

/-- A string of these bytes. -/
abbrev str (l : List UInt8) : Value := .string ⟨l.toArray⟩

set_option maxHeartbeats 400000 in
theorem rhash_any (l : List UInt8) (w : World) (hn : l.length ≤ 9223372036854775807) :
    Calls Try.prog 33 #[str l] w fun e w' => e = .returned (.int .u64 ((Fnv.hash l).toNat : Int)) ∧ w = w' := by
  go_enter Try.func33, Try.ntmps33
  go_wp2
  go_loop [3, 4] (fun x i => ∃ k : Nat, k ≤ l.length ∧ i = .int .i64 k ∧ x = .int .u64 ((Fnv.go Fnv.basis (l.take k)).toNat : Int)) (fun _ i => l.length - (intOf i).toNat)
  case atStart => exact ⟨0, Nat.zero_le _, rfl, rfl⟩
  case round =>
    obtain ⟨k, hk, rfl, rfl⟩ := hrel
    by_cases hlt : k < l.length
    · go_wp2
      go_round
      case rel => exact ⟨k + 1, by omega, by go_num, int_eq (by rw [Fnv.go_snoc _ _ _ hlt, fnv_bits]; rfl)⟩
      case measure => simp [intOf]; omega
    · go_wp2
      go_ret
      exact ⟨ret_eq (int_eq (by rw [List.take_of_length_le (by omega)]; rfl)), rfl⟩

theorem and_one (x : BitVec 32) : (bits .and .u32 (x.toNat : Int) 1 = 1 ∧ Crc.step x = (x >>> 1) ^^^ Crc.poly) ∨ (bits .and .u32 (x.toNat : Int) 1 = 0 ∧ Crc.step x = x >>> 1) := by
  have h1 : bits .and .u32 (x.toNat : Int) 1 = ((x &&& 1#32).toNat : Int) := bits32_and x 1#32
  have h2 : (x &&& 1#32).toNat = x.toNat % 2 := by
    rw [BitVec.toNat_and]
    exact Nat.and_one_is_mod _
  have h3 : x.getLsbD 0 = decide (x.toNat % 2 = 1) := by
    rw [BitVec.getLsbD, Nat.testBit_zero]
  rcases Nat.mod_two_eq_zero_or_one x.toNat with h | h
  · right
    refine ⟨by rw [h1, h2, h]; rfl, ?_⟩
    rw [Crc.step_eq, h3, h]
    simp
  · left
    refine ⟨by rw [h1, h2, h]; rfl, ?_⟩
    rw [Crc.step_eq, h3, h]
    simp
theorem shr_one (x : BitVec 32) : (x.toNat : Int) / (2 : Int) = ((x >>> 1).toNat : Int) := by
  rw [BitVec.toNat_ushiftRight, Nat.shiftRight_eq_div_pow]
  omega

set_option maxHeartbeats 400000 in
theorem rsum_any (l : List UInt8) (w : World) (hn : l.length ≤ 9223372036854775807) :
    Calls Try.prog 31 #[str l] w fun e w' => e = .returned (.int .u32 ((Crc.sum l).toNat : Int)) ∧ w = w' := by
  go_enter Try.func31, Try.ntmps31
  go_wp2
  go_loop [3, 4] (fun x i => ∃ k : Nat, k ≤ l.length ∧ i = .int .i64 k ∧ x = .int .u32 ((Crc.add Crc.ones (l.take k)).toNat : Int)) (fun _ i => l.length - (intOf i).toNat)
  case atStart => exact ⟨0, Nat.zero_le _, rfl, rfl⟩
  case round =>
    obtain ⟨k, hk, rfl, rfl⟩ := hrel
    by_cases hlt : k < l.length
    · go_wp2
      go_loop [3, 5] (fun x i => ∃ j : Nat, j ≤ 8 ∧ i = .int .i64 j ∧ x = .int .u32 ((Crc.steps j (Crc.add Crc.ones (l.take k) ^^^ BitVec.ofNat 32 l[k].toNat)).toNat : Int)) (fun _ i => 8 - (intOf i).toNat)
      case atStart => exact ⟨0, Nat.zero_le _, rfl, int_eq (by rw [byte32, bits32_xor]; rfl)⟩
      case round =>
        obtain ⟨j, hj, rfl, rfl⟩ := hrel
        generalize hx : Crc.steps j (Crc.add Crc.ones (l.take k) ^^^ BitVec.ofNat 32 l[k].toNat) = x
        have HX := Lib.hid hx
        clear hx
        have hx0 : 0 ≤ (x.toNat : Int) := by omega
        have hx1 : (x.toNat : Int) ≤ 4294967295 := by have := x.isLt; omega
        by_cases hj8 : j < 8
        · rcases and_one x with ⟨hb, hs⟩ | ⟨hb, hs⟩
          · have HS := Lib.hid hs
            clear hs
            go_wp2
            go_round
            case rel => exact ⟨j + 1, by omega, by go_num, int_eq (by rw [Crc.steps_succ', HX.out, HS.out, shr_one]; exact bits32_xor _ Crc.poly)⟩
            case measure => simp [intOf]; omega
          · have HS := Lib.hid hs
            clear hs
            go_wp2
            go_round
            case rel => exact ⟨j + 1, by omega, by go_num, int_eq (by rw [Crc.steps_succ', HX.out, HS.out, shr_one])⟩
            case measure => simp [intOf]; omega
        · go_wp2
          go_round
          case rel => exact ⟨k + 1, by omega, by go_num, int_eq (by
            obtain rfl : j = 8 := by omega
            rw [crc_add_snoc _ l k hlt, Crc.byte, HX.out])⟩
          case measure => simp [intOf]; omega
    · go_wp2
      go_ret
      exact ⟨ret_eq (int_eq (by rw [List.take_of_length_le (by omega), crc_not_bits]; rfl)), rfl⟩

theorem str_add (a b : List UInt8) : (⟨a.toArray⟩ : ByteArray) ++ (⟨b.toArray⟩ : ByteArray) = ⟨(a ++ b).toArray⟩ := by
  apply ByteArray.ext
  simp
theorem str_eq (a b : List UInt8) : ((⟨a.toArray⟩ : ByteArray) = (⟨b.toArray⟩ : ByteArray)) ↔ a = b := by
  constructor
  · intro h
    have := congrArg ByteArray.data h
    simpa using this
  · rintro rfl
    rfl

set_option maxHeartbeats 400000 in
theorem rseal_any (l : List UInt8) (w : World) (hn : l.length ≤ 1073741824) :
    Calls Try.prog 32 #[str l] w fun e w' => e = .returned (str (Crc.sealed l)) ∧ Below w.heap.size w w' := by
  go_enter Try.func32, Try.ntmps32
  go_wp2_with fail
  refine (rsum_any l _ (by omega)).mono ?_
  rintro e w1 ⟨rfl, rfl⟩
  generalize hx : Crc.sum l = x
  have HX := Lib.hid hx
  clear hx
  have hx0 : 0 ≤ (x.toNat : Int) := by omega
  have hx1 : (x.toNat : Int) ≤ 4294967295 := by have := x.isLt; omega
  have hrow : Row (w.heap.size + 1) (w.alloc (.cells #[.int .u8 ((x.toNat : Int) % 256), .int .u8 ((x.toNat : Int) / 256 % 256), .int .u8 ((x.toNat : Int) / 65536 % 256), .int .u8 ((x.toNat : Int) / 16777216)] 5)) (some ⟨w.heap.size, 0, none⟩) 4 1 (bts (Crc.four x)) := by
    rw [four_cells]
    exact Row.new w _ _ rfl
  have hcv := conv_b hrow 4
  have hs : ¬ 9223372036854775807 < l.length + (Crc.four x).length := by rw [show (Crc.four x).length = 4 from rfl]; omega
  go_wp2
  go_ret
  exact ⟨ret_eq (congrArg Value.string (by rw [str_add, Crc.sealed, HX.out])), (Below.refl _ _).alloc (Nat.le_refl _) _⟩

theorem str_cut (l : List UInt8) (k : Nat) : (⟨l.toArray⟩ : ByteArray).extract 0 k = ⟨(l.take k).toArray⟩ := by
  apply ByteArray.ext
  simp

set_option maxHeartbeats 400000 in
theorem ropen_torn (l : List UInt8) (w : World) (hn : l.length < 4) :
    Calls Try.prog 30 #[str l] w fun e w' => e = .returned (.tuple #[str [], .int .i64 4]) ∧ w = w' := by
  go_enter Try.func30, Try.ntmps30
  go_wp2
  go_ret2
  exact ⟨rfl, rfl⟩

set_option maxHeartbeats 400000 in
theorem ropen_good (l : List UInt8) (w : World) (hn : 4 ≤ l.length) (hb : l.length ≤ 1073741824) (hq : (Crc.sealed (l.take (l.length - 4)) == l) = true) :
    Calls Try.prog 30 #[str l] w fun e w' => e = .returned (.tuple #[str (l.take (l.length - 4)), .int .i64 0]) ∧ Below w.heap.size w w' := by
  go_enter Try.func30, Try.ntmps30
  go_wp2_with fail
  rw [str_cut]
  refine (rseal_any (l.take (l.length - 4)) _ (by rw [List.length_take]; omega)).mono ?_
  rintro e w1 ⟨rfl, hb1⟩
  go_wp2
  go_ret2
  exact ⟨by rw [str_cut]; rfl, hb1⟩

set_option maxHeartbeats 400000 in
theorem ropen_bad (l : List UInt8) (w : World) (hn : 4 ≤ l.length) (hb : l.length ≤ 1073741824) (hq : (Crc.sealed (l.take (l.length - 4)) == l) = false) :
    Calls Try.prog 30 #[str l] w fun e w' => e = .returned (.tuple #[str [], .int .i64 5]) ∧ Below w.heap.size w w' := by
  go_enter Try.func30, Try.ntmps30
  go_wp2_with fail
  rw [str_cut]
  refine (rseal_any (l.take (l.length - 4)) _ (by rw [List.length_take]; omega)).mono ?_
  rintro e w1 ⟨rfl, hb1⟩
  go_wp2
  go_ret2
  exact ⟨rfl, hb1⟩

theorem eight_length (x : BitVec 64) : (Fnv.eight x).length = 8 := rfl
theorem eight_get (x : BitVec 64) (k : Nat) (h : k < 8) : (Fnv.eight x)[k]'h = UInt8.ofNat (x.toNat / 2 ^ (56 - 8 * k)) := by
  rcases (by omega : k = 0 ∨ k = 1 ∨ k = 2 ∨ k = 3 ∨ k = 4 ∨ k = 5 ∨ k = 6 ∨ k = 7) with rfl | rfl | rfl | rfl | rfl | rfl | rfl | rfl <;> rfl

set_option maxHeartbeats 400000 in
theorem reight_any (x : BitVec 64) (w : World) :
    Calls Try.prog 40 #[.int .u64 (x.toNat : Int)] w fun e w' => e = .returned (str (Fnv.eight x)) ∧ Below w.heap.size w w' := by
  obtain ⟨i0, hi0, hz0, hz1, hz2⟩ := info_parts info_u8
  obtain ⟨cs, hcs, hmk⟩ := make1 22 5 i0 (Value.int .u8 0) Try.underlying22 hi0 hz0 hz1 rfl 8 (by omega) (by omega)
  have hmk' : (Instr.makeSlice 22 (.int .i64 8) (.int .i64 8)).run Try.prog w = _ := hmk w
  generalize hX : Fnv.eight x = X
  have hXl : X.length = 8 := by rw [← hX]; rfl
  have hXg : ∀ k (_ : k < 8) (g : k < X.length), X[k] = UInt8.ofNat (x.toNat / 2 ^ (56 - 8 * k)) := by subst hX; exact fun k h _ => eight_get x k h
  have HX := Lib.hid hX
  have HXl := Lib.hid hXl
  have HXg := Lib.hid hXg
  clear hX hXl hXg
  have hx0 : 0 ≤ (x.toNat : Int) := by omega
  have hx1 : (x.toNat : Int) ≤ 18446744073709551615 := by have := x.isLt; omega
  go_enter Try.func40, Try.ntmps40
  go_wp2
  clear hmk hmk'
  go_loopw [4] (fun i wr => ∃ k : Nat, k ≤ 8 ∧ i = .int .i64 k ∧ wr.ownsRow w.heap.size 5 1 (.slice (some ⟨w.heap.size, 0, none⟩) 8 8) 8 ((bts X).take k ++ List.replicate (8 - k) (Value.int .u8 0)) ∧ Below w.heap.size w wr) (fun i _ => 8 - (intOf i).toNat)
  case atStart =>
    refine ⟨0, Nat.zero_le _, rfl, ?_, (Below.refl _ _).alloc (Nat.le_refl _) _⟩
    have := World.ownsRow_lit (base := w.heap.size) (e := 5) (size := 1) w cs 8 (Nat.le_refl _) (by unfold maxLen; omega) (by have := congrArg List.length hcs; simpa using this)
    rw [hcs] at this
    simpa using this
  case round =>
    obtain ⟨k, hk, rfl, hown, hbel⟩ := hrel
    by_cases hlt : k < 8
    · have hfz := hown.frozenAt k
      have hco := hown.cellAt k (by omega)
      have hlen : k < ((bts X).take k ++ List.replicate (8 - k) (Value.int .u8 0)).length := by have := HXl.out; simp [bts_length]; omega
      rw [List.getElem?_eq_getElem hlen] at hco
      generalize ((bts X).take k ++ List.replicate (8 - k) (Value.int .u8 0))[k] = old at hco
      have hsh : (56 : Int) - 8 * (k : Int) = ((56 - 8 * k : Nat) : Int) := by omega
      have hsb : 56 - 8 * k ≤ 56 := by omega
      generalize hss : 56 - 8 * k = s at hsh hsb
      have HSS := Lib.hid hss
      clear hss
      go_wp2
      go_roundw
      case rel =>
        refine ⟨k + 1, by omega, by go_num, ?_, (hbel.setCell (Nat.le_refl _) _)⟩
        have hst := (World.ownsRow.stored (w := wr) hown k (Value.int .u8 ((X[k]'(by have := HXl.out; omega)).toNat : Int))).1
        have hf := fill_set (xs := bts X) (N := 8) (k := k) (by rw [bts_length]; exact HXl.out) hlt (Value.int .u8 0)
        have hb : (bts X)[k]'(by rw [bts_length]; have := HXl.out; omega) = Value.int .u8 ((X[k]'(by have := HXl.out; omega)).toNat : Int) := by simp [bts]
        rw [hb] at hf
        rw [hf] at hst
        have hv : (((X[k]'(by have := HXl.out; omega)).toNat : Int)) = (x.toNat : Int) / 2 ^ s % 256 := by
          rw [HXg.out k hlt (by have := HXl.out; omega), HSS.out, UInt8.toNat_ofNat']
          rw [Int.natCast_emod, Int.natCast_ediv, Int.natCast_pow]
          rfl
        rw [hv] at hst
        exact hst
      case measure => simp [intOf]; omega
    · obtain rfl : k = 8 := by omega
      rw [Nat.sub_self, List.replicate_zero, List.append_nil, List.take_of_length_le (by rw [bts_length]; have := HXl.out; omega)] at hown
      have hcv := conv_b (Row.own hown) 8
      go_wp2
      go_ret
      exact ⟨rfl, hbel⟩

theorem eight_len (x : BitVec 64) : (Fnv.eight x).length = 8 := rfl

set_option maxHeartbeats 400000 in
theorem rmix_any (x y : BitVec 64) (w : World) :
    Calls Try.prog 35 #[.int .u64 (x.toNat : Int), .int .u64 (y.toNat : Int)] w fun e w' => e = .returned (.int .u64 ((Fnv.mix x y).toNat : Int)) ∧ Below w.heap.size w w' := by
  go_enter Try.func35, Try.ntmps35
  go_wp2_with fail
  refine (reight_any x _).mono ?_
  rintro e w1 ⟨rfl, hb1⟩
  go_wp2_with fail
  refine (reight_any y _).mono ?_
  rintro e w2 ⟨rfl, hb2⟩
  have hs : ¬ 9223372036854775807 < (Fnv.eight x).length + (Fnv.eight y).length := by rw [eight_len, eight_len]; omega
  go_wp2_with fail
  rw [str_add]
  refine (rhash_any (Fnv.eight x ++ Fnv.eight y) _ (by simp [eight_len])).mono ?_
  rintro e w3 ⟨rfl, rfl⟩
  go_wp2
  go_ret
  exact ⟨rfl, hb1.trans (hb2.mono hb1.size)⟩

theorem base_add (g t : Nat) : (⟨g, 0, none⟩ : Addr).add t = ⟨g, t, none⟩ := by
  unfold Addr.add
  split
  · rename_i h; rw [h]
  · simp
theorem eights_get (x y : BitVec 64) (t k : Nat) (ht : t < 2) (hk : k < 8) (z : BitVec 64) (hz : [x, y][t]? = some z) (h : 8 * t + k < (Fnv.eight x ++ Fnv.eight y).length) : (Fnv.eight x ++ Fnv.eight y)[8 * t + k] = UInt8.ofNat (z.toNat / 2 ^ (56 - 8 * k)) := by
  rcases (by omega : t = 0 ∨ t = 1) with rfl | rfl
  · obtain rfl : x = z := by simpa using hz
    rw [List.getElem_append_left (by rw [eight_len]; omega)]
    simp only [Nat.mul_zero, Nat.zero_add]
    exact eight_get x k hk
  · obtain rfl : y = z := by simpa using hz
    rw [List.getElem_append_right (by rw [eight_len]; omega)]
    simp only [eight_len, Nat.mul_one, Nat.add_sub_cancel_left]
    exact eight_get y k hk

set_option maxHeartbeats 1000000 in
theorem mix_any (x y : BitVec 64) (w : World) :
    Calls Try.prog 34 #[.int .u64 (x.toNat : Int), .int .u64 (y.toNat : Int)] w fun e w' => e = .returned (.int .u64 ((Fnv.mix x y).toNat : Int)) ∧ Below w.heap.size w w' := by
  obtain ⟨i0, hi0, hz0, hz1, hz2⟩ := info_parts info_u8
  have hx0 : 0 ≤ (x.toNat : Int) := by omega
  have hx1 : (x.toNat : Int) ≤ 18446744073709551615 := by have := x.isLt; omega
  have hy0 : 0 ≤ (y.toNat : Int) := by omega
  have hy1 : (y.toNat : Int) ≤ 18446744073709551615 := by have := y.isLt; omega
  go_enter Try.func34, Try.ntmps34
  go_wp2
  have hrow : Row (w.heap.size + 1) (w.alloc (.cells #[.int .u64 (x.toNat : Int), .int .u64 (y.toNat : Int)] 38)) (some ⟨w.heap.size, 0, none⟩) 2 1 ([x, y].map fun z => Value.int .u64 (z.toNat : Int)) := Row.new w _ _ rfl
  have hb00 : Below w.heap.size w (w.alloc (.cells #[.int .u64 (x.toNat : Int), .int .u64 (y.toNat : Int)] 38)) := (Below.refl _ _).alloc (Nat.le_refl _) _
  have hs0 : (w.alloc (.cells #[.int .u64 (x.toNat : Int), .int .u64 (y.toNat : Int)] 38)).heap.size = w.heap.size + 1 := by simp
  generalize w.alloc (.cells #[.int .u64 (x.toNat : Int), .int .u64 (y.toNat : Int)] 38) = w0 at hrow hb00 hs0 ⊢
  clear hx0 hx1 hy0 hy1
  have hE : (Fnv.eight x ++ Fnv.eight y).length = 16 := rfl
  have hg := eights_get x y
  generalize hEE : Fnv.eight x ++ Fnv.eight y = E at hE hg
  have HEE := Lib.hid hEE
  have HE := Lib.hid hE
  have HG := Lib.hid hg
  clear hEE hE hg
  go_loopw [5, 13] (fun s i wr => ∃ A c, ∃ t : Nat, s = .slice A (8 * t) c ∧ i = .int .i64 t ∧ t ≤ 2 ∧ wr.ownsRow (w.heap.size + 1) 5 1 (.slice A (8 * t) c) (8 * t) (bts (E.take (8 * t))) ∧ 8 * t ≤ c ∧ c ≤ maxLen ∧ Below (w.heap.size + 1) w0 wr) (fun _ i _ => 2 - (intOf i).toNat)
  case atStart => exact ⟨none, 0, 0, rfl, rfl, by omega, World.ownsRow_nil _ _ _ _, by omega, by omega, Below.refl _ _⟩
  case round =>
    obtain ⟨A, c, t, rfl, rfl, ht, hown, hc, hm, hbel⟩ := hrel
    by_cases hlt : t < 2
    · obtain ⟨z, hz⟩ : ∃ z, [x, y][t]? = some z := ⟨_, List.getElem?_eq_getElem hlt⟩
      obtain ⟨a, v, ha, -, hv, hcell⟩ := (hrow.below hbel).at1 hlt
      rw [List.getElem?_map, hz] at hv
      obtain rfl : Value.int .u64 (z.toNat : Int) = v := by simpa using hv
      obtain rfl : (⟨w.heap.size, 0, none⟩ : Addr) = a := by simpa using ha
      clear ha hv
      replace hcell : wr.cell? ⟨w.heap.size, t, none⟩ = some (Value.int .u64 (z.toNat : Int)) := by rwa [base_add] at hcell
      have hzz0 : 0 ≤ (z.toNat : Int) := by omega
      have hz1' : (z.toNat : Int) ≤ 18446744073709551615 := by have := z.isLt; omega
      have HZ := Lib.hid hz
      clear hz
      go_wp2
      clear hcell
      simp only [show decide ((t : Int) < 2) = true from decide_eq_true (by omega)]
      go_loopw [5, 8] (fun s i wr => ∃ A c, ∃ k : Nat, s = .slice A (8 * t + k) c ∧ i = .int .i64 (56 - 8 * (k : Int)) ∧ k ≤ 8 ∧ wr.ownsRow (w.heap.size + 1) 5 1 (.slice A (8 * t + k) c) (8 * t + k) (bts (E.take (8 * t + k))) ∧ 8 * t + k ≤ c ∧ c ≤ maxLen ∧ Below (w.heap.size + 1) w0 wr) (fun _ i _ => (intOf i + 8).toNat)
      case atStart => exact ⟨A, c, 0, rfl, rfl, by omega, hown, hc, hm, hbel⟩
      case round =>
        clear hown hc hm hbel
        obtain ⟨A, c, k, rfl, rfl, hk, hown, hc, hm, hbel⟩ := hrel
        by_cases hk8 : k < 8
        · have hsh : (56 : Int) - 8 * (k : Int) = ((56 - 8 * k : Nat) : Int) := by omega
          have hsb : 56 - 8 * k ≤ 56 := by omega
          generalize hss : 56 - 8 * k = s at hsh hsb
          have HSS := Lib.hid hss
          clear hss
          rw [hsh]
          go_wp2_with (at_builtin; refine stop_in ?_)
          have hk16 : 8 * t + k < E.length := by have := HE.out; omega
          have hbyte : Value.int .u8 ((z.toNat : Int) / 2 ^ s % 256) = Value.int .u8 ((E[8 * t + k].toNat : Nat) : Int) := by
            rw [HG.out t k hlt hk8 z HZ.out hk16, HSS.out, UInt8.toNat_ofNat', Int.natCast_emod, Int.natCast_ediv, Int.natCast_pow]
            rfl
          rw [hbyte]
          have hrow1 : Row (wr.heap.size + 1) (wr.alloc (.cells #[.int .u8 ((E[8 * t + k].toNat : Nat) : Int)] 5)) (some ⟨wr.heap.size, 0, none⟩) 1 1 (bts [E[8 * t + k]]) := Row.new wr _ _ rfl
          have hX : bts (E.take (8 * t + k)) ++ bts [E[8 * t + k]] = bts (E.take (8 * t + (k + 1))) := by rw [← bts_append, ← Nat.add_assoc, List.take_succ_eq_append_getElem hk16]
          refine stop_out (wpList_app rfl (.tmp 21) (.tmp 26) _ rfl (w.heap.size + 1) 5 i0 _ 1 1 Try.underlying22 hi0 hz0 hz1 hz2 rfl (by omega) w0 (hbel.alloc (by have := hbel.size; omega) _) (by have := hbel.size; simp; omega) (.slice A (8 * t + k) c) (8 * t + k) _ rfl (hown.alloc _) (wr.heap.size + 1) _ 1 1 (bts [E[8 * t + k]]) rfl hrow1 (bts_one _) (8 * t + (k + 1)) (bts (E.take (8 * t + (k + 1)))) (by omega) hX (by unfold maxLen; omega) (by omega) ?_)
          intro A2 c2 w2 hown2 hb2 hg2 hc2 hm2
          go_wp2
          go_roundw
          case rel => exact ⟨A2, c2, k + 1, rfl, int_eq (by omega), by omega, hown2, hc2, hm2, hb2⟩
          case measure => simp [intOf]; omega
        · obtain rfl : k = 8 := by omega
          go_wp2
          go_roundw
          case rel => exact ⟨A, c, t + 1, by rw [Nat.mul_add], by go_num, by omega, by rw [Nat.mul_add]; exact hown, by omega, hm, hbel⟩
          case measure => simp [intOf]; omega
    · obtain rfl : t = 2 := by omega
      rw [List.take_of_length_le (by have := HE.out; omega)] at hown
      go_wp2_with fail
      refine (hash_any A 16 c E _ (by omega) (Row.own hown)).mono ?_
      rintro e w3 ⟨rfl, rfl⟩
      go_wp2
      go_ret
      exact ⟨ret_eq (int_eq (by rw [← HEE.out]; rfl)), hb00.trans (hbel.mono (by omega))⟩
end Go.Proofs.Ytmfobogicdeokaa
