/-
  The walk of the sums' 'awake': it answers true, and changes nothing that was there.
-/
import Derived.Test.YtmfobogicdeokaaSumC
import Derived.Lib.SlBytesConst
namespace Go.Proofs.Ytmfobogicdeokaa
open Go.RowKit

theorem sum9 : ((Crc.sum [49, 50, 51, 52, 53, 54, 55, 56, 57]).toNat : Int) = 3808858755 := by decide +kernel
theorem sum0 : ((Crc.sum []).toNat : Int) = 0 := by decide +kernel
theorem hash0 : ((Fnv.hash []).toNat : Int) = 14695981039346656037 := by decide +kernel
theorem sealx : (Crc.sealed ((Crc.sealed [120]).take 1) == Crc.sealed [120]) = true := by decide +kernel
theorem takex : (Crc.sealed [120]).take 1 = [120] := by decide +kernel
theorem lit_row (w : World) (l : List UInt8) (cs : Array Value) (n : Nat) (h : cs.toList = bts l) (hn : l.length = n) (fr : Nat × Nat := (0, 0)) : Row (w.alloc (.cells cs 5 fr)).heap.size (w.alloc (.cells cs 5 fr)) (some ⟨w.heap.size, 0, none⟩) n 1 (bts l) := by
  rw [← h]
  rw [show (w.alloc (.cells cs 5 fr)).heap.size = w.heap.size + 1 from by simp]
  refine Row.new w cs _ ?_ fr
  have := congrArg List.length h
  rw [bts_length] at this
  simpa [hn] using this

set_option maxHeartbeats 400000 in
theorem awake_any (w : World) : Calls Try.prog 15 #[] w fun e w' => e = .returned (.bool true) ∧ Below w.heap.size w w' := by
  have kc := fun (w : World) (C : Array Value) (n c : Nat) => Lib.run_convert_bytes_const (P := Try.prog) w 22 5 C n c Try.underlying22 Try.underlying5
  go_enter Try.func15, Try.ntmps15
  go_wp2_with fail
  refine (seal_any _ 1 1 [120] _ (Nat.le_refl _) (by decide) (by omega) (lit_row w [120] #[.int .u8 120] 1 rfl rfl (1, 2))).mono ?_
  rintro e w1 ⟨A1, c1, rfl, ho1, hc1, hm1, hb1⟩
  go_wp2_with fail
  refine (open_good A1 5 c1 (Crc.sealed [120]) _ hc1 hm1 (by omega) (by omega) (Row.own ho1) sealx).mono ?_
  rintro e w2 ⟨A2, c2, rfl, ho2, hc2, hm2, hb2⟩
  have hb : Below w.heap.size w w2 := (((Below.refl _ _).alloc (Nat.le_refl _) _).trans (hb1.mono (by simp))).trans (hb2.mono (by have := hb1.size; simp at this; omega))
  rw [takex] at ho2
  go_wp2_with fail
  refine (of_any _ 9 9 [49, 50, 51, 52, 53, 54, 55, 56, 57] _ (Nat.le_refl _) (by decide) (lit_row w2 _ _ 9 rfl rfl (9, 10))).mono ?_
  rintro e w3 ⟨rfl, hb3⟩
  have hb' : Below w2.heap.size w2 w3 := ((Below.refl _ _).alloc (Nat.le_refl _) _).trans (hb3.mono (by simp))
  rw [sum9]
  go_wp2_with fail
  refine (of_any none 0 0 [] _ (Nat.le_refl _) (by decide) Row.nil_).mono ?_
  rintro e w4 ⟨rfl, hb4⟩
  rw [sum0]
  have hb'' : Below w2.heap.size w2 w4 := hb'.trans (hb4.mono hb'.size)
  have hcv := conv_b (B := w2.heap.size) ((Row.own ho2).below hb'') c2
  go_wp2_with fail
  refine (hash_any none 0 0 [] _ (by decide) Row.nil_).mono ?_
  rintro e w5 ⟨rfl, rfl⟩
  rw [hash0]
  go_wp2
  go_ret
  exact ⟨rfl, hb.trans (hb''.mono hb.size)⟩
end Go.Proofs.Ytmfobogicdeokaa
