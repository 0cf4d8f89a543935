/-
  The walks of the sums, behind: sum.Hash, sum.Seal, sum.Open: each computes what the plain law says, and changes nothing that was there.
-/
import Derived.Test.YtmfobogicdeokaaSumA
namespace Go.Proofs.Ytmfobogicdeokaa
open Go.RowKit

theorem info_u8 : (Try.prog.info? 5).map (fun i => (i.zero, i.size, i.bytes)) = some (some (.int .u8 0), 1, 1) := by kernel_rfl

theorem fnv_bits (h : BitVec 64) (c : UInt8) : IntKind.u64.wrap (bits .xor .u64 (h.toNat : Int) (IntKind.u64.wrap (c.toNat : Int)) * 1099511628211) = ((Fnv.byte h c).toNat : Int) := by
  have h1 : IntKind.u64.wrap (c.toNat : Int) = ((BitVec.ofNat 64 c.toNat).toNat : Int) := by
    rw [← byte64, IntKind.wrap_u64]
    have := c.toNat_lt
    omega
  rw [h1, bits64_xor, IntKind.wrap_u64, Fnv.byte, BitVec.toNat_mul]
  rfl

set_option maxHeartbeats 400000 in
theorem hash_any (A : Option Addr) (n c : Nat) (l : List UInt8) (w : World) (hn : n ≤ 9223372036854775807) (hr : Row w.heap.size w A n 1 (bts l)) :
    Calls Try.prog 20 #[.slice A n c] w fun e w' => e = .returned (.int .u64 ((Fnv.hash l).toNat : Int)) ∧ w = w' := by
  go_enter Try.func20, Try.ntmps20
  go_wp2
  go_loop [3, 8, 5] (fun x i _ => ∃ k : Nat, k ≤ n ∧ i = .int .i64 k ∧ x = .int .u64 ((Fnv.go Fnv.basis (l.take k)).toNat : Int)) (fun _ i _ => n - (intOf i).toNat)
  case atStart => exact ⟨0, Nat.zero_le _, rfl, rfl⟩
  case round =>
    obtain ⟨k, hk, rfl, rfl⟩ := hrel
    by_cases hlt : k < n
    · obtain ⟨a, hl, rfl, _, hc⟩ := hr.bt hlt
      go_wp2
      go_round
      case rel => exact ⟨k + 1, by omega, by go_num, int_eq (by rw [Fnv.go_snoc _ _ _ hl, fnv_bits])⟩
      case measure => simp [intOf]; omega
    · go_wp2
      go_ret
      exact ⟨ret_eq (int_eq (by rw [List.take_of_length_le (by have := hr.btlen; omega)]; rfl)), rfl⟩

theorem four_cells (x : BitVec 32) : bts (Crc.four x) = [.int .u8 ((x.toNat : Int) % 256), .int .u8 ((x.toNat : Int) / 256 % 256), .int .u8 ((x.toNat : Int) / 65536 % 256), .int .u8 ((x.toNat : Int) / 16777216)] := by
  have := x.isLt
  have h4 : x.toNat / 16777216 % 256 = x.toNat / 16777216 := Nat.mod_eq_of_lt (by omega)
  simp [bts, Crc.four, h4]

set_option maxHeartbeats 400000 in
theorem seal_any (A : Option Addr) (n c : Nat) (l : List UInt8) (w : World) (hn : n ≤ c) (hm : c ≤ maxLen) (hbig : n ≤ 1073741824) (hr : Row w.heap.size w A n 1 (bts l)) :
    Calls Try.prog 17 #[.slice A n c] w fun e w' => ∃ A' c', e = .returned (.slice A' (n + 4) c') ∧ w'.ownsRow w.heap.size 5 1 (.slice A' (n + 4) c') (n + 4) (bts (Crc.sealed l)) ∧ n + 4 ≤ c' ∧ c' ≤ maxLen ∧ Below w.heap.size w w' := by
  obtain ⟨i0, hi0, hz0, hz1, hz2⟩ := info_parts info_u8
  go_enter Try.func17, Try.ntmps17
  go_wp2_with fail
  refine (of_any A n c l w hn hm hr).mono ?_
  rintro e w1 ⟨rfl, hb1⟩
  generalize hx : Crc.sum l = x
  have HX := Lib.hid hx
  clear hx
  have hx0 : 0 ≤ (x.toNat : Int) := by omega
  have hx1 : (x.toNat : Int) ≤ 4294967295 := by have := x.isLt; omega
  go_wp2_with (at_builtin; refine stop_in ?_)
  refine stop_out (wpList_app0 rfl (.const (.slice none 0 0)) (.tmp 6) _ rfl w.heap.size 5 i0 _ 1 1 Try.underlying22 hi0 hz0 hz1 hz2 rfl (by omega) w hb1 hb1.size rfl w.heap.size A n c (bts l) rfl (hr.below hb1) (bts_one l) (by unfold maxLen; omega) (by omega) ?_)
  intro A2 c2 w2 hown2 hb2 hg2 hc2 hm2
  go_wp2_with (at_builtin; refine stop_in ?_)
  have hrow : Row (w2.heap.size + 1) (w2.alloc (.cells #[.int .u8 ((x.toNat : Int) % 256), .int .u8 ((x.toNat : Int) / 256 % 256), .int .u8 ((x.toNat : Int) / 65536 % 256), .int .u8 ((x.toNat : Int) / 16777216)] 5)) (some ⟨w2.heap.size, 0, none⟩) 4 1 (bts (Crc.four x)) := by
    rw [four_cells]
    exact Row.new w2 _ _ rfl
  refine stop_out (wpList_app rfl (.tmp 7) (.tmp 19) _ rfl w.heap.size 5 i0 _ 1 1 Try.underlying22 hi0 hz0 hz1 hz2 rfl (by omega) w (hb2.alloc hb2.size _) (by have := hb2.size; simp; omega) (.slice A2 n c2) n (bts l) rfl (hown2.alloc _) (w2.heap.size + 1) _ 4 4 (bts (Crc.four x)) rfl hrow (bts_one _) (n + 4) (bts (l ++ Crc.four x)) rfl (bts_append _ _).symm (by unfold maxLen; omega) (by omega) ?_)
  intro A3 c3 w3 hown3 hb3 _ hc3 hm3
  go_wp2
  go_ret
  exact ⟨A3, c3, rfl, by rw [Crc.sealed, HX.out]; exact hown3, hc3, hm3, hb3⟩
end Go.Proofs.Ytmfobogicdeokaa
