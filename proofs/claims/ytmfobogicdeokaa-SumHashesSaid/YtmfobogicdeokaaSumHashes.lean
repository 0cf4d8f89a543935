/-
  The walk of the law SumHashes: it answers true, and changes nothing that was there.
-/
import Derived.Test.YtmfobogicdeokaaSumRest
namespace Go.Proofs.Ytmfobogicdeokaa
open Go.RowKit

namespace Fnv
theorem byte_inj {h k : BitVec 64} {c : UInt8} (e : byte h c = byte k c) : h = k := by
  unfold byte at e
  have h2 := congrArg (· * 14886173955864302971#64) e
  simp only [BitVec.mul_assoc] at h2
  rw [show prime * 14886173955864302971#64 = 1#64 from by decide, BitVec.mul_one, BitVec.mul_one] at h2
  have h3 := congrArg (· ^^^ BitVec.ofNat 64 c.toNat) h2
  simpa [BitVec.xor_assoc] using h3
theorem byte_last {h : BitVec 64} {c d : UInt8} (e : byte h c = byte h d) : c = d := by
  unfold byte at e
  have h2 := congrArg (· * 14886173955864302971#64) e
  simp only [BitVec.mul_assoc] at h2
  rw [show prime * 14886173955864302971#64 = 1#64 from by decide, BitVec.mul_one, BitVec.mul_one] at h2
  have h3 := congrArg (h ^^^ ·) h2
  simp only [← BitVec.xor_assoc, BitVec.xor_self, BitVec.zero_xor] at h3
  have h4 := congrArg BitVec.toNat h3
  have hc := c.toNat_lt
  have hd := d.toNat_lt
  rw [BitVec.toNat_ofNat, BitVec.toNat_ofNat, Nat.mod_eq_of_lt (by omega), Nat.mod_eq_of_lt (by omega)] at h4
  exact UInt8.toNat_inj.1 h4
theorem hash_snoc (l : List UInt8) (c : UInt8) : hash (l ++ [c]) = byte (hash l) c := by
  unfold hash
  rw [go_append]
  rfl
end Fnv

theorem fnv_bits' (h : BitVec 64) (c : UInt8) : IntKind.u64.wrap (bits .xor .u64 (h.toNat : Int) (c.toNat : Int) * 1099511628211) = ((Fnv.byte h c).toNat : Int) := by
  have e := fnv_bits h c
  have h1 : IntKind.u64.wrap (c.toNat : Int) = (c.toNat : Int) := by
    rw [IntKind.wrap_u64]
    have := c.toNat_lt
    omega
  rwa [h1] at e

set_option maxHeartbeats 400000 in
theorem sumHashes_walk (A : Option Addr) (n c : Nat) (l : List UInt8) (x y : UInt8) (w : World) (hm : c ≤ maxLen) (hr : Row w.heap.size w A n 1 (bts l)) :
    Calls Try.prog 8 #[.slice A n c, .int .u8 (x.toNat : Int), .int .u8 (y.toNat : Int)] w fun e w' => e = .returned (.bool true) ∧ Below w.heap.size w w' := by
  have hm' : c ≤ 9223372036854775807 := hm
  by_cases h3 : 3000 < n
  · go_enter Try.func8, Try.ntmps8
    go_wp2_with (go_at_call 15; refine (awake_any _).mono ?_; rintro e w' ⟨rfl, hb⟩)
    go_ret
    exact ⟨rfl, hb⟩
  · obtain ⟨i0, hi0, hz0, hz1, hz2⟩ := info_parts info_u8
    go_enter Try.func8, Try.ntmps8
    go_wp2_with (at_builtin; refine stop_in ?_)
    refine stop_out (wpList_app rfl (.tmp 13) (.tmp 14) _ rfl w.heap.size 5 i0 _ 1 1 Try.underlying22 hi0 hz0 hz1 hz2 rfl (by omega) w ((Below.refl _ _).alloc (Nat.le_refl _) _) (by simp) _ 0 [] rfl (World.ownsRow_made w #[] 0 (Nat.le_refl _) (Nat.zero_le _) rfl) w.heap.size A n c (bts l) rfl (hr.alloc (Nat.le_refl _) _) (bts_one _) n (bts l) (Nat.zero_add n) rfl (by unfold maxLen; omega) (by omega) ?_)
    intro A1 c1 w1 ho1 hb1 _ hc1 hm1
    have hs1 := hb1.size
    go_wp2_with (at_builtin; refine stop_in ?_)
    refine stop_out (wpList_app rfl (.tmp 15) (.tmp 17) _ rfl w.heap.size 5 i0 _ 1 1 Try.underlying22 hi0 hz0 hz1 hz2 rfl (by omega) w (hb1.alloc hs1 _) (by simp; omega) _ n (bts l) rfl (ho1.alloc _) (w1.heap.size + 1) _ 1 1 (bts [x]) rfl (Row.new w1 _ _ rfl) (bts_one _) (n + 1) (bts (l ++ [x])) rfl (bts_append _ _).symm (by unfold maxLen; omega) (by omega) ?_)
    intro A2 c2 w2 ho2 hb2 _ hc2 hm2
    have hs2 := hb2.size
    clear ho1
    go_wp2_with (at_builtin; refine stop_in ?_)
    refine stop_out (wpList_app rfl (.tmp 19) (.tmp 20) _ rfl w2.heap.size 5 i0 _ 1 1 Try.underlying22 hi0 hz0 hz1 hz2 rfl (by omega) w2 ((Below.refl _ _).alloc (Nat.le_refl _) _) (by simp) _ 0 [] rfl (World.ownsRow_made w2 #[] 0 (Nat.le_refl _) (Nat.zero_le _) rfl) w.heap.size A n c (bts l) rfl ((hr.below hb2).alloc hs2 _) (bts_one _) n (bts l) (Nat.zero_add n) rfl (by unfold maxLen; omega) (by omega) ?_)
    intro A3 c3 w3 ho3 hb3 _ hc3 hm3
    have hs3 := hb3.size
    go_wp2_with (at_builtin; refine stop_in ?_)
    refine stop_out (wpList_app rfl (.tmp 21) (.tmp 23) _ rfl w2.heap.size 5 i0 _ 1 1 Try.underlying22 hi0 hz0 hz1 hz2 rfl (by omega) w2 (hb3.alloc hs3 _) (by simp; omega) _ n (bts l) rfl (ho3.alloc _) (w3.heap.size + 1) _ 1 1 (bts [y]) rfl (Row.new w3 _ _ rfl) (bts_one _) (n + 1) (bts (l ++ [y])) rfl (bts_append _ _).symm (by unfold maxLen; omega) (by omega) ?_)
    intro A4 c4 w4 ho4 hb4 _ hc4 hm4
    have hp : Row w4.heap.size w4 A2 (n + 1) 1 (bts (l ++ [x])) := own_row ho2 hb4
    have hq : Row w4.heap.size w4 A4 (n + 1) 1 (bts (l ++ [y])) := own_row ho4 (Below.refl _ _)
    have hbb : Below w.heap.size w w4 := hb2.trans (hb4.mono hs2)
    have hl : Row w4.heap.size w4 A n 1 (bts l) := (hr.below hbb).up hbb.size
    have hxy : (((Fnv.hash (l ++ [x])).toNat : Int) == ((Fnv.hash (l ++ [y])).toNat : Int)) = ((x.toNat : Int) == (y.toNat : Int)) := by
      rw [Bool.eq_iff_iff, beq_iff_eq, beq_iff_eq]
      constructor
      · intro h
        have h1 : (Fnv.hash (l ++ [x])).toNat = (Fnv.hash (l ++ [y])).toNat := by omega
        have h2 := BitVec.eq_of_toNat_eq h1
        rw [Fnv.hash_snoc, Fnv.hash_snoc] at h2
        rw [Fnv.byte_last h2]
      · intro h
        have h1 : x.toNat = y.toNat := by omega
        rw [UInt8.toNat_inj.1 h1]
    generalize hqq : ((x.toNat : Int) == (y.toNat : Int)) = q at hxy
    clear ho2 ho3 ho4 hb1 hb2 hb3 hb4
    go_wp2_with (go_at_call 20; refine stop_in ?_)
    refine stop_out ((hash_any A2 (n + 1) c2 _ w4 (by omega) hp).mono ?_)
    rintro e w' ⟨rfl, rfl⟩
    go_wp2_with (go_at_call 20; refine stop_in ?_)
    refine stop_out ((hash_any A4 (n + 1) c4 _ w4 (by omega) hq).mono ?_)
    rintro e w' ⟨rfl, rfl⟩
    go_wp2_with (go_at_call 20; refine stop_in ?_)
    refine stop_out ((hash_any A2 (n + 1) c2 _ w4 (by omega) hp).mono ?_)
    rintro e w' ⟨rfl, rfl⟩
    go_wp2_with (go_at_call 20; refine stop_in ?_)
    refine stop_out ((hash_any A n c l w4 (by omega) hl).mono ?_)
    rintro e w' ⟨rfl, rfl⟩
    have hfin : (((Fnv.hash (l ++ [x])).toNat : Int) == IntKind.u64.wrap (bits .xor .u64 ((Fnv.hash l).toNat : Int) (IntKind.u64.wrap (x.toNat : Int)) * 1099511628211)) = true := by
      rw [fnv_bits, ← Fnv.hash_snoc, beq_self_eq_true]
    go_wp2_with fail
    refine (awake_any _).mono ?_
    rintro e w5 ⟨rfl, hb5⟩
    go_wp2
    go_ret
    exact ⟨rfl, hbb.trans (hb5.mono hbb.size)⟩
end Go.Proofs.Ytmfobogicdeokaa
