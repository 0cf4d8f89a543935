/- Texts FrameA, Open, FrameB, Split, Reader, EditA, EditB, EditC, EditD, EditE, EditF, PlainMan, PlainManG, PlainItem, PlainRows, PlainBytes, PlainTable, PlainStore, Flat, Items in one. No conditions. -/
import Derived.Test.YtdkjoigpahafmaaGreatDoorShelf
import Derived.Test.YtdkjoigpahafmaaGreatDoorBunAC
import Derived.Test.YtdkjoigpahafmaaGreatDoorBunAA
import Derived.Deep.RegionWith
import Derived.Deep.DeepCutAuto
import Derived.Lib.MinMax
import Derived.StillTailTactics
import Derived.Deep.CutBlock
import Derived.Test.YtdkjoigpahafmaaGreatDoorBunAB
import Derived.Below

set_option linter.unusedSimpArgs false
set_option linter.unusedVariables false
set_option maxRecDepth 100000
set_option maxHeartbeats 16000000
namespace Go.Proofs.YtdkjoigpahafmaaGreatDoor
section
open Go.RowKit Go.Shelf
theorem grow_any (n : Nat) (hn : n ≤ 1073741824) (w : World) :
  Calls Tryz.prog 248 #[.slice none 0 0, .int .i64 (n : Int)] w fun e w' => ∃ A c, e = .returned (.slice A 0 c) ∧ w'.ownsRow w.heap.size 5 1 (.slice A 0 c) 0 [] ∧ Below w.heap.size w w' := by
 obtain ⟨i0, hi0, hz0, hz1, hz2⟩ := info_parts info_u8
 rcases Nat.eq_zero_or_pos n with h0 | h0
 ·subst h0
  have h := Any8.slices_Grow_room Tryz.grow121 none 0 0 0 w (Nat.le_refl _) (by omega) (by omega) (by omega)
  refine Calls.mono h ?_
  rintro e w' ⟨rfl, rfl⟩
  exact ⟨none, 0, rfl, World.ownsRow_nil _ _ _ _, Below.refl _ _⟩
 ·have h := Any8.slices_Grow_grow Tryz.grow121 i0 (.int .u8 0) hi0 hz0 (by omega) none 0 0 n [] w (Nat.le_refl _) (by omega) (by rw [hz2]; omega) (by omega) (by simp) (fun _ => rfl) (fun a h => by cases h)
  refine Calls.mono h ?_
  rintro e w' ⟨rfl, rfl⟩
  have hg := grownCap_ge w (0 + n) 0 5
  have hg2 := grownCap_le_maxLen w (0 + n) 0 5 (by unfold maxLen; omega)
  refine ⟨_, _, rfl, ⟨by simp, .inr ⟨w.heap.size, _, _, rfl, Nat.le_refl _, heap_alloc_new w.drew _, Nat.zero_le _, hg2, ?_, by simp⟩⟩, ((Below.refl w.heap.size w).drew).alloc (Nat.le_refl _) _⟩
  change _ = grownCap w (0 + n) 0 5 * 1
  have hc : (Value.int IntKind.u8 0).cells.size = 1 := rfl
  simp only [Array.size_append, Builtin.zeroCells, Array.size_map, Array.size_range, hc]
  change 0 + (0 + n - 0) * 1 + (grownCap w (0 + n) 0 5 - (0 + n)) * 1 = _
  omega
theorem flat_take {ls : List (List UInt8)} {k : Nat} (hl : k < ls.length) : (ls.take (k + 1)).flatten = (ls.take k).flatten ++ ls[k] := by
 have h := (List.take_append_getElem hl).symm
 rw [h, List.flatten_append]
 simp
theorem flat_le {ls : List (List UInt8)} (k : Nat) : (ls.take k).flatten.length ≤ ls.flatten.length := by
 conv => rhs; rw [← List.take_append_drop k ls, List.flatten_append, List.length_append]
 omega
theorem concat_any (P : Option Addr) (n c : Nat) (ls : List (List UInt8)) (w : World) (hn : n ≤ 1073741824) (hbig : ls.flatten.length ≤ 1073741824) (hr : Rows2 w.heap.size w P n ls) :
  Calls Tryz.prog 211 #[.slice P n c] w fun e w' => ∃ A' c', e = .returned (.slice A' ls.flatten.length c') ∧
   w'.ownsRow w.heap.size 5 1 (.slice A' ls.flatten.length c') ls.flatten.length (bts ls.flatten) ∧ ls.flatten.length ≤ c' ∧ c' ≤ maxLen ∧ Below w.heap.size w w' := by
 obtain ⟨i0, hi0, hz0, hz1, hz2⟩ := info_parts info_u8
 have hlen : ls.length = n := by obtain ⟨_, _, h, _⟩ := hr; exact h
 obtain ⟨F, hF⟩ : ∃ F, F = ls.flatten.length := ⟨_, rfl⟩
 have HF := Lib.hid hF
 have HB := Lib.hid hbig
 rw [← hF] at hbig ⊢
 clear hF
 go_enter Tryz.func211, Tryz.ntmps211
 go_wp2
 go_loop [3, 11] (fun x i => ∃ k : Nat, k ≤ n ∧ i = .int .i64 (k : Int) ∧ x = .int .i64 (((ls.take k).flatten.length : Nat) : Int)) (fun _ i => n - (intOf i).toNat)
 case atStart => exact ⟨0, Nat.zero_le _, rfl, rfl⟩
 case round =>
  obtain ⟨k, hk, rfl, rfl⟩ := hrel
  by_cases hlt : k < n
  ·obtain ⟨a, A, k', c', hl, rfl, _, hc, hkc, hcm, hr2⟩ := hr.at_ hlt
   have ht := flat_take hl
   have hb1 := flat_le (ls := ls) (k + 1)
   have e1 : (ls.take (k + 1)).flatten.length = (ls.take k).flatten.length + k' := by rw [ht, List.length_append, hr2.btlen]
   have hb2 : (ls.take k).flatten.length + k' ≤ 1073741824 := by
    have h : ls.flatten.length ≤ 1073741824 := HB
    omega
   have E1 := Lib.hid e1
   clear ht hb1 e1
   generalize (ls.take k).flatten.length = L at *
   have hge : ((L : Int) + (k' : Int) < 0) = False := by simp; omega
   go_wp2
   go_round
   case rel => exact ⟨k + 1, by omega, by go_num, by have e1 : (ls.take (k + 1)).flatten.length = L + k' := E1; rw [e1]; go_num⟩
   case measure => simp [intOf]; omega
  ·obtain rfl : k = n := by omega
   have e1 : (ls.take k).flatten.length = F := by
    have h : F = ls.flatten.length := HF
    rw [List.take_of_length_le (by omega), h]
   rw [e1]
   clear e1
   go_wp2_with fail
   refine (grow_any F hbig w).mono ?_
   rintro e w1 ⟨A1, c1, rfl, ho1, hb1⟩
   go_wp2
   go_loopw [6, 27] (fun o i wr => ∃ (j : Nat) (A' : Option Addr) (M c' : Nat), j ≤ k ∧ o = .slice A' M c' ∧ i = .int .i64 (j : Int) ∧ wr.ownsRow w.heap.size 5 1 (.slice A' M c') M (bts (ls.take j).flatten) ∧ Below w.heap.size w wr) (fun _ i _ => k - (intOf i).toNat)
   case atStart => exact ⟨0, A1, 0, c1, Nat.zero_le _, rfl, rfl, by simpa [bts] using ho1, hb1⟩
   case round =>
    obtain ⟨j, A', M, c', hj, rfl, rfl, hown, hb⟩ := hrel
    have hML : M = (ls.take j).flatten.length := by
     have h1 := hown.1
     rw [bts_length] at h1
     omega
    by_cases hjk : j < k
    ·obtain ⟨a, A, k', c2, hl, rfl, hab, hc, hkc, hcm, hr2⟩ := (hr.below hb).at_ hjk
     have ht := flat_take hl
     have hb1 := flat_le (ls := ls) (j + 1)
     have hb2 : M + k' ≤ 1073741824 := by
      have h : ls.flatten.length ≤ 1073741824 := HB
      have e1 : (ls.take (j + 1)).flatten.length = (ls.take j).flatten.length + k' := by rw [ht, List.length_append, hr2.btlen]
      omega
     have hnew : bts (ls.take j).flatten ++ bts ls[j] = bts (ls.take (j + 1)).flatten := by rw [ht, bts_append]
     have h1c := bts_one ls[j]
     generalize bts ls[j] = X at *
     generalize hY : bts (ls.take (j + 1)).flatten = Y at *
     generalize bts (ls.take j).flatten = Z at *
     have HN := Lib.hid hnew
     have HY := Lib.hid hY
     clear hY hML ht hb1 hnew
     go_wp2_with (at_builtin; refine stop_in ?_)
     refine stop_out (wpList_app rfl (.tmp 31) (.tmp 32) _ rfl w.heap.size 5 i0 _ 1 1 Tryz.underlying121 hi0 hz0 hz1 hz2 rfl (by omega) w hb hb.size _ M Z rfl hown w.heap.size A k' c2 X rfl hr2 h1c (M + k') Y rfl HN (by unfold maxLen; omega) (by omega) ?_)
     intro A3 c3 w3 hown3 hb3 _ hc3 hm3
     go_wp2
     go_roundw
     case rel => exact ⟨j + 1, A3, M + k', c3, by omega, rfl, by go_num, by have hY : bts (ls.take (j + 1)).flatten = Y := HY; rw [hY]; exact hown3, hb3⟩
     case measure => simp [intOf]; omega
    ·obtain rfl : j = k := by omega
     have e1 : ls.take j = ls := List.take_of_length_le (by omega)
     rw [e1] at hown hML
     have h : F = ls.flatten.length := HF
     have hMF : M = F := by omega
     subst hMF
     obtain ⟨A4, c4, e4, h5, h6, _⟩ := own_form hown
     injection e4 with e5 e6 e7
     subst e5
     subst e7
     clear hML h e1
     go_wp2
     go_ret
     exact ⟨A', c', rfl, hown, h5, h6, hb⟩
theorem rows3 (w : World) (e : TypeId) (A1 A2 A3 : Option Addr) (n1 n2 n3 c1 c2 c3 : Nat) (l1 l2 l3 : List UInt8) (h1 : Row w.heap.size w A1 n1 1 (bts l1)) (h2 : Row w.heap.size w A2 n2 1 (bts l2)) (h3 : Row w.heap.size w A3 n3 1 (bts l3))
  (k1 : n1 ≤ c1) (k2 : n2 ≤ c2) (k3 : n3 ≤ c3) (m1 : c1 ≤ maxLen) (m2 : c2 ≤ maxLen) (m3 : c3 ≤ maxLen) :
  Rows2 (w.alloc (.cells #[.slice A1 n1 c1, .slice A2 n2 c2, .slice A3 n3 c3] e)).heap.size (w.alloc (.cells #[.slice A1 n1 c1, .slice A2 n2 c2, .slice A3 n3 c3] e)) (some ⟨w.heap.size, 0, none⟩) 3 [l1, l2, l3] := by
 refine ⟨_, (Row.new w #[.slice A1 n1 c1, .slice A2 n2 c2, .slice A3 n3 c3] e (n := 3) (size := 1) rfl).up (by simp), rfl, fun i hi => ?_⟩
 rcases i with _ | _ | _ | i
 ·exact ⟨A1, n1, c1, rfl, k1, m1, (h1.alloc (Nat.le_refl _) _).up (by simp)⟩
 ·exact ⟨A2, n2, c2, rfl, k2, m2, (h2.alloc (Nat.le_refl _) _).up (by simp)⟩
 ·exact ⟨A3, n3, c3, rfl, k3, m3, (h3.alloc (Nat.le_refl _) _).up (by simp)⟩
 ·simp at hi
  omega
theorem head_row (w : World) (e : TypeId) (k n : Nat) (hk : k < 256) (hn : n ≤ 60000) : Row (w.alloc (.cells #[.int .u8 (k : Int), .int .u8 ((n : Int) / 65536), .int .u8 ((n : Int) / 256), .int .u8 ((n : Int) % 256)] e)).heap.size
  (w.alloc (.cells #[.int .u8 (k : Int), .int .u8 ((n : Int) / 65536), .int .u8 ((n : Int) / 256), .int .u8 ((n : Int) % 256)] e)) (some ⟨w.heap.size, 0, none⟩) 4 1 (bts (Fr.head k n)) := by
 have h := (Row.new w #[.int .u8 (k : Int), .int .u8 ((n : Int) / 65536), .int .u8 ((n : Int) / 256), .int .u8 ((n : Int) % 256)] e (n := 4) (size := 1) rfl).up (B' := (w.alloc (.cells #[.int .u8 (k : Int), .int .u8 ((n : Int) / 65536), .int .u8 ((n : Int) / 256), .int .u8 ((n : Int) % 256)] e)).heap.size) (by simp)
 have e1 : bts (Fr.head k n) = [.int .u8 (k : Int), .int .u8 ((n : Int) / 65536), .int .u8 ((n : Int) / 256), .int .u8 ((n : Int) % 256)] := by
  simp only [bts, Fr.head, List.map_cons, List.map_nil, UInt8.toNat_ofNat', Nat.reducePow]
  rw [show ((k % 256 : Nat) : Int) = (k : Int) from by omega, show ((n / 65536 % 256 : Nat) : Int) = (n : Int) / 65536 from by omega, show ((n / 256 % 256 : Nat) : Int) = (n : Int) / 256 from by omega, show ((n % 256 : Nat) : Int) = (n : Int) % 256 from by omega]
 rw [e1]
 exact h
theorem fput_any (A : Option Addr) (N c : Nat) (l : List UInt8) (k : Nat) (B : Option Addr) (M d : Nat) (m : List UInt8) (w : World) (hN : N ≤ 500000000) (hNc : N ≤ c) (hc : c ≤ maxLen) (hr : Row w.heap.size w A N 1 (bts l))
  (h1 : 1 ≤ k) (h2 : k ≤ 100) (hM : M ≤ 60000) (hMd : M ≤ d) (hd : d ≤ maxLen) (hq : Row w.heap.size w B M 1 (bts m)) :
  Calls Tryz.prog 156 #[.slice A N c, .int .i64 (k : Int), .slice B M d] w fun e w' => ∃ A' K c', e = .returned (.tuple #[.slice A' K c', .int .i64 0]) ∧
   w'.ownsRow w.heap.size 5 1 (.slice A' K c') K (bts (l ++ Fr.put k m)) ∧ K ≤ c' ∧ c' ≤ maxLen ∧ Below w.heap.size w w' := by
 have a1 : ((k : Int) < 1) = False := by simp; omega
 have a2 : ((100 : Int) < (k : Int)) = False := by simp; omega
 have a3 : ((60000 : Int) < (M : Int)) = False := by simp; omega
 go_enter Tryz.func156, Tryz.ntmps156
 go_wp2_with fail
 refine (seal_any _ 4 4 (Fr.head k M) _ (Nat.le_refl _) (by decide) (by omega) (head_row w _ k M (by omega) hM)).mono ?_
 rintro e w1 ⟨A1, c1, rfl, ho1, hc1, hm1, hb1⟩
 have hb1' := later_ ((Below.refl w.heap.size w).alloc (Nat.le_refl _) _) hb1
 have ho1' := Row.own ho1
 clear ho1 hb1
 have hr1 := (hr.below hb1').up hb1'.size
 have hq1 := (hq.below hb1').up hb1'.size
 go_wp2_with fail
 refine (seal_any B M d m w1 hMd hd (by omega) hq1).mono ?_
 rintro e w2 ⟨A2, c2, rfl, ho2, hc2, hm2, hb2⟩
 have hb2' := later_ hb1' hb2
 have ho2' := Row.own ho2
 have hr2 := (hr1.below hb2).up hb2.size
 have ho12 := (ho1'.below hb2).up hb2.size
 have hb1 := hb1'
 clear ho2 hb2 hb1'
 have hfl : [l, Crc.sealed (Fr.head k M), Crc.sealed m].flatten = l ++ Fr.put k m := by simp [Fr.put, hq.btlen]
 have hl1 := hr.btlen
 have hl2 : (l ++ Fr.put k m).length ≤ 1073741824 := by
  rw [List.length_append, Fr.put_length, hq.btlen]
  omega
 have HL := Lib.hid hl2
 have HF := Lib.hid hfl
 have hrows := rows3 w2 121 A A1 A2 N (4 + 4) (M + 4) c c1 c2 l _ _ hr2 ho12 ho2' hNc hc1 hc2 hc hm1 hm2
 clear hl2 hfl
 go_wp2_with fail
 refine (concat_any _ 3 3 _ _ (by omega) (by have h : [l, Crc.sealed (Fr.head k M), Crc.sealed m].flatten = l ++ Fr.put k m := HF; rw [h]; exact HL) hrows).mono ?_
 rintro e w3 ⟨A3, c3, rfl, ho3, hc3, hm3, hb3⟩
 have hfl : [l, Crc.sealed (Fr.head k M), Crc.sealed m].flatten = l ++ Fr.put k m := HF
 rw [hfl] at ho3 hc3 ⊢
 have hb := later_ (hb2'.alloc hb2'.size _) hb3
 have ho := own_base ho3 (Nat.le_trans hb2'.size (by simp) : w.heap.size ≤ (w2.alloc _).heap.size)
 generalize (l ++ Fr.put k m).length = K at *
 clear ho3 hb3 hfl
 go_wp2
 go_ret2
 exact ⟨A3, K, c3, rfl, ho, hc3, hm3, hb⟩
end
section
open Go.RowKit
end
section
open Go.RowKit
end
section
open Go.RowKit
def i64v (ks : List Nat) : List Value := ks.map fun k : Nat => .int .i64 (k : Int)
structure Bods (base : Nat) (w : World) (kv bv : Value) (ks : List Nat) (bs : List (List UInt8)) : Prop where
 kinds : w.ownsRow base 3 1 kv ks.length (i64v ks)
 row : ∃ vs, w.ownsRow base 121 1 bv bs.length vs ∧ ∀ i (h : i < bs.length), ∃ A k c, vs[i]? = some (.slice A k c) ∧ k ≤ c ∧ c ≤ maxLen ∧ Row w.heap.size w A k 1 (bts bs[i]) ∧ ∀ a, A = some a → a.block < w.heap.size ∧ some a.block ≠ kv.ownBlock ∧ some a.block ≠ bv.ownBlock ∧ base ≤ a.block
 sep : ∀ g, kv.ownBlock = some g → bv.ownBlock ≠ some g
variable {base : Nat} {w w' : World} {kv bv : Value} {ks : List Nat} {bs : List (List UInt8)}
theorem Bods.start (base : Nat) (w : World) : Bods base w (.slice none 0 0) (.slice none 0 0) [] [] :=
 ⟨World.ownsRow_nil _ _ _ _, ⟨[], World.ownsRow_nil _ _ _ _, fun i h => absurd h (by simp)⟩, fun g h => by cases h⟩
theorem Bods.below (h : Bods base w kv bv ks bs) (hb : Below w.heap.size w w') : Bods base w' kv bv ks bs := by
 obtain ⟨vs, hv, hx⟩ := h.row
 refine ⟨own_below h.kinds hb, ⟨vs, own_below hv hb, fun i hi => ?_⟩, h.sep⟩
 obtain ⟨A, k, c, e, h1, h2, h3, h4⟩ := hx i hi
 exact ⟨A, k, c, e, h1, h2, (h3.below hb).up hb.size, fun a ha => ⟨Nat.lt_of_lt_of_le (h4 a ha).1 hb.size, (h4 a ha).2⟩⟩
theorem Bods.alloc (h : Bods base w kv bv ks bs) (o : Obj) : Bods base (w.alloc o) kv bv ks bs := h.below ((Below.refl _ _).alloc (Nat.le_refl _) o)
end
section
open Go.RowKit
end
section
open Go.RowKit
def bigs (ns : List Nat) : Bool := ns.any fun n => decide (281474976710656 < n)
theorem big_any (n : Nat) (w : World) : Calls Tryz.prog 261 #[.int .u64 (n : Int)] w fun e w' => e = .returned (.bool (decide ((281474976710656 : Int) < (n : Int)))) ∧ w = w' := by
 go_enter Tryz.func261, Tryz.ntmps261
 go_wp2
 go_ret
 exact ⟨rfl, rfl⟩
theorem bigs_take {ns : List Nat} {k : Nat} (hl : k < ns.length) : bigs (ns.take (k + 1)) = (bigs (ns.take k) || decide (281474976710656 < ns[k])) := by
 have h := (List.take_append_getElem hl).symm
 unfold bigs
 rw [h, List.any_append]
 simp
theorem bigs_of {ns : List Nat} {k : Nat} (hl : k < ns.length) (h : 281474976710656 < ns[k]) : bigs ns = true := by
 unfold bigs
 rw [List.any_eq_true]
 exact ⟨ns[k], List.getElem_mem hl, by simpa using h⟩
theorem bigs_idx (A : Option Addr) (n c : Nat) (ns : List Nat) (w : World) (hn : n ≤ 1000) (hr : Row w.heap.size w A n 1 (u64v ns)) :
  Calls Tryz.prog 295 #[.slice A n c, .func (.func 261) #[] #[]] w fun e w' => (∃ i : Int, e = .returned (.int .i64 i) ∧ decide (0 ≤ i) = bigs ns) ∧ w = w' := by
 have hnn := hr.unlen
 go_enter Tryz.func295, Tryz.ntmps295
 go_wp2
 go_loop [8] (fun i => ∃ k : Nat, k ≤ n ∧ i = .int .i64 (k : Int) ∧ Hid (bigs (ns.take k) = false)) (fun i => n - (intOf i).toNat)
 case atStart => exact ⟨0, Nat.zero_le _, rfl, Lib.hid rfl⟩
 case round =>
  obtain ⟨k, hk, rfl, hb⟩ := hrel
  by_cases hlt : k < n
  ·obtain ⟨a, hl, rfl, _, hc⟩ := hr.un hlt
   have ht := bigs_take hl
   have hof := bigs_of hl
   generalize ns[k] = x at *
   have HT := Lib.hid ht
   clear ht
   by_cases hx : 281474976710656 < x
   ·have HO := Lib.hid (hof hx)
    have hx' : (281474976710656 : Int) < (x : Int) := by omega
    clear hof
    go_wp2_with fail
    refine (big_any x w).mono ?_
    rintro e w1 ⟨rfl, rfl⟩
    go_wp2
    go_ret
    exact ⟨⟨k, rfl, by have h : bigs ns = true := HO; rw [h]; simp⟩, rfl⟩
   ·have hx' : ((281474976710656 : Int) < (x : Int)) = False := by simp; omega
    clear hof
    go_wp2_with fail
    refine (big_any x w).mono ?_
    rintro e w1 ⟨rfl, rfl⟩
    go_wp2
    go_round
    case rel =>
     refine ⟨k + 1, by omega, by go_num, Lib.hid ?_⟩
     have ht : bigs (ns.take (k + 1)) = (bigs (ns.take k) || decide (281474976710656 < x)) := HT
     have hb' : bigs (ns.take k) = false := hb
     rw [ht, hb']
     simpa using hx
    case measure => simp [intOf]; omega
  ·have hall : bigs ns = false := by
    have hb' : bigs (ns.take k) = false := hb
    rwa [List.take_of_length_le (by omega)] at hb'
   have HA := Lib.hid hall
   clear hall
   go_wp2
   go_ret
   exact ⟨⟨-1, rfl, by have h : bigs ns = false := HA; rw [h]; rfl⟩, rfl⟩
theorem bigs_has (A : Option Addr) (n c : Nat) (ns : List Nat) (w : World) (hn : n ≤ 1000) (hr : Row w.heap.size w A n 1 (u64v ns)) :
  Calls Tryz.prog 260 #[.slice A n c, .func (.func 261) #[] #[]] w fun e w' => e = .returned (.bool (bigs ns)) ∧ w = w' := by
 go_enter Tryz.func260, Tryz.ntmps260
 go_wp2_with fail
 refine (bigs_idx A n c ns w hn hr).mono ?_
 rintro e w' ⟨⟨i, rfl, hi⟩, rfl⟩
 have HI := Lib.hid hi
 clear hi
 go_wp2
 go_ret
 refine ⟨?_, rfl⟩
 have hi : decide (0 ≤ i) = bigs ns := HI
 rw [← hi]
 rfl
theorem meta_any (A : Option Addr) (n c : Nat) (ns : List Nat) (w : World) (hn : n ≤ 1000) (hr : Row w.heap.size w A n 1 (u64v ns)) :
  Calls Tryz.prog 230 #[.slice A n c] w fun e w' => e = .returned (.bool (!bigs ns)) ∧ w = w' := by
 go_enter Tryz.func230, Tryz.ntmps230
 go_wp2_with fail
 refine (bigs_has A n c ns w hn hr).mono ?_
 rintro e w' ⟨rfl, rfl⟩
 go_wp2
 go_ret
 exact ⟨rfl, rfl⟩
end
section
open Go.RowKit
theorem base_add (g t : Nat) : (⟨g, 0, none⟩ : Addr).add t = ⟨g, t, none⟩ := by
 unfold Addr.add
 split
 ·subst_vars; rfl
 ·simp
theorem u64_row (w : World) (e : TypeId) (cs : Array Value) (ns : List Nat) (n : Nat) (h : cs.toList = u64v ns) (hn : ns.length = n) : Row (w.alloc (.cells cs e)).heap.size (w.alloc (.cells cs e)) (some ⟨w.heap.size, 0, none⟩) n 1 (u64v ns) := by
 have h1 := (Row.new w cs e (n := n) (size := 1) (by rw [← Array.length_toList, h]; simp [u64v, hn])).up (B' := (w.alloc (.cells cs e)).heap.size) (by simp)
 rwa [h] at h1
end
section
open Go.RowKit
end
section
open Go.RowKit
theorem orElse_pos {a : Nat} (h : a ≠ 0) (b : Nat) : orElse a b = a := if_neg h
end
section
open Go.RowKit
end
section
open Go.RowKit
structure Bv where
 g : Nat
 f : Nat
 c : Nat
 a : Nat
 l : Nat
def Bv.zero : Bv := ⟨0, 0, 0, 0, 0⟩
def Bv.app (v e : Bv) : Bv := ⟨orElse e.g v.g, orElse e.f v.f, orElse e.c v.c, orElse e.a v.a, orElse e.l v.l⟩
def Bv.may (e : Bv) : Bool := decide (e.g ≤ 1073741824) && !bigs [e.f, e.c, e.a, e.l]
def Bv.ok (v : Bv) : Bool := decide (1 ≤ v.g) && v.may
def Bv.bytes (e : Bv) : List UInt8 := Ed.bytes ⟨[], [], e.g, e.f, e.c, e.a, e.l⟩
def Bv.cells (v : Bv) : List Value := [.int .i64 (v.g : Int), .slice none 0 0, .int .u64 (v.f : Int), .int .u64 (v.c : Int), .int .u64 (v.a : Int), .int .u64 (v.l : Int)]
def Bv.run (es : List Bv) : Bv := es.foldl Bv.app Bv.zero
theorem Bv.may_iff {e : Bv} : e.may = true ↔ e.g ≤ 1073741824 ∧ bigs [e.f, e.c, e.a, e.l] = false := by simp [Bv.may]
theorem Bv.ok_iff {e : Bv} : e.ok = true ↔ 1 ≤ e.g ∧ e.g ≤ 1073741824 ∧ bigs [e.f, e.c, e.a, e.l] = false := by simp [Bv.ok, Bv.may]
theorem Bods.chg {base : Nat} {w w' : World} {kv bv : Value} {ks : List Nat} {bs : List (List UInt8)} {g : Nat} (h : Bods base w kv bv ks bs) (c : Chg [g] w w') (hg : g < base) : Bods base w' kv bv ks bs := by
 have hgr : w.grownBy w' (some g) := ⟨c.os, c.tape, c.output, c.size, fun k hk hne => c.block k hk (by simp; intro e; exact hne (by rw [e]))⟩
 obtain ⟨vs, hv, hx⟩ := h.row
 refine ⟨h.kinds.kept hgr (.inr (fun e => ?_)), ⟨vs, hv.kept hgr (.inr (fun e => ?_)), fun i hi => ?_⟩, h.sep⟩
 ·have := (h.kinds.lt _ e).1
  omega
 ·have := (hv.lt _ e).1
  omega
 ·obtain ⟨A, k, c1, e, h1, h2, h3, h4⟩ := hx i hi
  exact ⟨A, k, c1, e, h1, h2, (h3.grow hgr (fun a ha e => by have := (h4 a ha).2.2.2; injection e with e; omega)).up c.size, fun a ha => ⟨Nat.lt_of_lt_of_le (h4 a ha).1 c.size, (h4 a ha).2⟩⟩
end
section
open Go
namespace Sd
variable {d : Sd}
theorem create_load (d : Sd) (s : List UInt8) : (d.create s).1.load ≤ d.load + 2 := by
 have h := call_load d [s]
 obtain ⟨e1, e2, e3, e4, _⟩ := call_same d [s]
 unfold create
 dsimp only
 split
 ·omega
 ·split
  ·exact Nat.le_trans (Nat.le_of_eq h) (Nat.le_add_right _ _)
  ·split
   ·exact Nat.le_trans (Nat.le_of_eq h) (Nat.le_add_right _ _)
   ·simp only [load, List.length_append, List.length_singleton]
    omega
theorem append_load (d : Sd) (s b : List UInt8) : (d.append s b).1.load = d.load := by
 have h := call_load d [s]
 obtain ⟨e1, e2, e3, e4, _⟩ := call_same d [s]
 unfold append
 dsimp only
 split
 ·exact h
 ·split
  ·exact h
  ·split
   ·exact h
   ·split
    ·exact h
    ·simp [load, e4]
theorem sync_load (d : Sd) (s : List UInt8) : (d.sync s).1.load = d.load := by
 have h := call_load d [s]
 obtain ⟨e1, e2, e3, e4, _⟩ := call_same d [s]
 unfold sync
 dsimp only
 split
 ·exact h
 ·split
  ·exact h
  ·simp [load, e4]
theorem rename_load (d : Sd) (a b : List UInt8) : (d.rename a b).1.load ≤ d.load + 1 := by
 have h := call_load d [a, b]
 obtain ⟨e1, e2, e3, e4, _⟩ := call_same d [a, b]
 unfold rename
 dsimp only
 split
 ·omega
 ·split
  ·exact Nat.le_trans (Nat.le_of_eq h) (Nat.le_add_right _ _)
  ·split
   ·exact Nat.le_trans (Nat.le_of_eq h) (Nat.le_add_right _ _)
   ·simp only [load, List.length_append, List.length_singleton, e3]
    omega
theorem remove_load (d : Sd) (s : List UInt8) : (d.remove s).1.load ≤ d.load + 1 := by
 have h := call_load d [s]
 obtain ⟨e1, e2, e3, e4, _⟩ := call_same d [s]
 unfold remove
 dsimp only
 split
 ·omega
 ·split
  ·exact Nat.le_trans (Nat.le_of_eq h) (Nat.le_add_right _ _)
  ·simp only [load, List.length_append, List.length_singleton, e3]
   omega
theorem syncDir_load (d : Sd) : (d.syncDir).1.load ≤ d.load := by
 have h := call_load d []
 obtain ⟨e1, e2, e3, e4, _⟩ := call_same d []
 unfold syncDir
 dsimp only
 split
 ·omega
 ·simp [load, e3]
def write (d : Sd) (s b : List UInt8) : Sd × Nat :=
 if (d.create s).2 ≠ 0 then d.create s
 else if ((d.create s).1.append s b).2 ≠ 0 then (d.create s).1.append s b
 else ((d.create s).1.append s b).1.sync s
theorem Wf.write {d : Sd} (h : d.Wf) (s b : List UInt8) : (d.write s b).1.Wf := by
 unfold Sd.write
 split
 ·exact h.create s
 ·split
  ·exact (h.create s).append s b
  ·exact ((h.create s).append s b).sync s
theorem write_load (d : Sd) (s b : List UInt8) : (d.write s b).1.load ≤ d.load + 2 := by
 have h1 := create_load d s
 have h2 := append_load (d.create s).1 s b
 have h3 := sync_load ((d.create s).1.append s b).1 s
 unfold write
 split
 ·omega
 ·split
  ·omega
  ·omega
end Sd
structure Ms where
 name : List UInt8
 v : Bv
 count : Nat
 broken : Bool
namespace Mn
def greatest (l : List (List UInt8)) (kind : List UInt8) : Int := l.foldl (fun m s => max m ((number s kind).getD 0)) 0
theorem greatest_take {l : List (List UInt8)} {k : Nat} (h : k < l.length) (kind : List UInt8) : greatest (l.take (k + 1)) kind = max (greatest (l.take k) kind) ((number l[k] kind).getD 0) := by
 unfold greatest
 rw [List.take_succ_eq_append_getElem h, List.foldl_append]
 rfl
theorem number_fits {s kind : List UInt8} {v : Int} (h : number s kind = some v) (hs : s ≠ []) : 1 ≤ v ∧ v ≤ 1073741824 := by
 have h1 := number_some h
 by_cases hf : (fits v && isKind kind) = true
 ·simp [fits] at hf; omega
 ·rw [name, if_neg hf] at h1; exact absurd h1.symm hs
end Mn
namespace Mw
open Mn
def kCur : List UInt8 := [99, 117, 114, 114, 101, 110, 116]
def kTemp : List UInt8 := [99, 117, 114, 114, 101, 110, 116, 46, 116, 109, 112]
def recB (v : Bv) : List UInt8 := Fr.put 6 v.bytes
def headB (n : Int) : List UInt8 := Fr.put 8 (Pn.put n.toNat)
def sweep (nm : List UInt8) : List (List UInt8) → Sd → Sd
 | [], d => d
 | o :: r, d => sweep nm r (if (number o kMan).isSome && !(o == nm) then (d.remove o).1 else d)
def fin (d : Sd) (M : Ms) (nm : List UInt8) : Sd × Ms × Nat :=
 if (d.syncDir).2 ≠ 0 then ((d.syncDir).1, { M with name := nm, count := 1, broken := true }, (d.syncDir).2)
 else (sweep nm (d.syncDir).1.list (d.syncDir).1, { M with name := nm, count := 1 }, 0)
def ren (d : Sd) (M : Ms) (nm : List UInt8) : Sd × Ms × Nat :=
 if (d.rename kTemp kCur).2 ≠ 0 then ((d.rename kTemp kCur).1, M, (d.rename kTemp kCur).2) else fin (d.rename kTemp kCur).1 M nm
def sd1 (d : Sd) (M : Ms) (nm : List UInt8) : Sd × Ms × Nat :=
 if (d.syncDir).2 ≠ 0 then ((d.syncDir).1, M, (d.syncDir).2) else ren (d.syncDir).1 M nm
def hd (d : Sd) (M : Ms) (nm : List UInt8) : Sd × Ms × Nat :=
 if (d.write kTemp (headB ((number nm kMan).getD 0))).2 ≠ 0 then ((d.write kTemp (headB ((number nm kMan).getD 0))).1, M, (d.write kTemp (headB ((number nm kMan).getD 0))).2)
 else sd1 (d.write kTemp (headB ((number nm kMan).getD 0))).1 M nm
def tmp (d : Sd) (M : Ms) (nm : List UInt8) : Sd × Ms × Nat :=
 if (d.read kTemp).2 = 0 then
  if (d.remove kTemp).2 ≠ 0 then ((d.remove kTemp).1, M, (d.remove kTemp).2) else hd (d.remove kTemp).1 M nm
 else hd d M nm
def rewrite (d : Sd) (M : Ms) (nm : List UInt8) : Sd × Ms × Nat :=
 if (d.write nm (recB M.v)).2 ≠ 0 then ((d.write nm (recB M.v)).1, M, (d.write nm (recB M.v)).2)
 else tmp (d.write nm (recB M.v)).1 M nm
def save (d : Sd) (M : Ms) (e : Bv) : Sd × Ms × Nat :=
 if M.broken = true then (d, M, 14)
 else if (d.append M.name (recB e)).2 ≠ 0 then ((d.append M.name (recB e)).1, M, (d.append M.name (recB e)).2)
 else if ((d.append M.name (recB e)).1.sync M.name).2 ≠ 0 then (((d.append M.name (recB e)).1.sync M.name).1, { M with count := M.count + 1, v := M.v.app e, broken := true }, ((d.append M.name (recB e)).1.sync M.name).2)
 else (((d.append M.name (recB e)).1.sync M.name).1, { M with count := M.count + 1, v := M.v.app e }, 0)
end Mw
end
section
open Go
structure Gs where
 name : List UInt8
 v : Vw
 count : Nat
 broken : Bool
namespace Gw
open Mn
open Mw (kCur kTemp headB sweep)
def fin (d : Sd) (M : Gs) (nm : List UInt8) : Sd × Gs × Nat :=
 if (d.syncDir).2 ≠ 0 then ((d.syncDir).1, { M with name := nm, count := 1, broken := true }, (d.syncDir).2)
 else (sweep nm (d.syncDir).1.list (d.syncDir).1, { M with name := nm, count := 1 }, 0)
def ren (d : Sd) (M : Gs) (nm : List UInt8) : Sd × Gs × Nat :=
 if (d.rename kTemp kCur).2 ≠ 0 then ((d.rename kTemp kCur).1, M, (d.rename kTemp kCur).2) else fin (d.rename kTemp kCur).1 M nm
def sd1 (d : Sd) (M : Gs) (nm : List UInt8) : Sd × Gs × Nat :=
 if (d.syncDir).2 ≠ 0 then ((d.syncDir).1, M, (d.syncDir).2) else ren (d.syncDir).1 M nm
def hd (d : Sd) (M : Gs) (nm : List UInt8) : Sd × Gs × Nat :=
 if (d.write kTemp (headB ((number nm kMan).getD 0))).2 ≠ 0 then ((d.write kTemp (headB ((number nm kMan).getD 0))).1, M, (d.write kTemp (headB ((number nm kMan).getD 0))).2)
 else sd1 (d.write kTemp (headB ((number nm kMan).getD 0))).1 M nm
def tmp (d : Sd) (M : Gs) (nm : List UInt8) : Sd × Gs × Nat :=
 if (d.read kTemp).2 = 0 then
  if (d.remove kTemp).2 ≠ 0 then ((d.remove kTemp).1, M, (d.remove kTemp).2) else hd (d.remove kTemp).1 M nm
 else hd d M nm
def rewrite (d : Sd) (M : Gs) (nm : List UInt8) : Sd × Gs × Nat :=
 if (d.write nm M.v.whole.rec_).2 ≠ 0 then ((d.write nm M.v.whole.rec_).1, M, (d.write nm M.v.whole.rec_).2)
 else tmp (d.write nm M.v.whole.rec_).1 M nm
def put (d : Sd) (M : Gs) (e : Ed) (v : Vw) : Sd × Gs × Nat :=
 if (d.append M.name e.rec_).2 ≠ 0 then ((d.append M.name e.rec_).1, M, (d.append M.name e.rec_).2)
 else if ((d.append M.name e.rec_).1.sync M.name).2 ≠ 0 then (((d.append M.name e.rec_).1.sync M.name).1, { M with count := M.count + 1, v := v, broken := true }, ((d.append M.name e.rec_).1.sync M.name).2)
 else (((d.append M.name e.rec_).1.sync M.name).1, { M with count := M.count + 1, v := v }, 0)
def save (d : Sd) (M : Gs) (e : Ed) : Sd × Gs × Nat :=
 if M.broken = true then (d, M, 14)
 else if e.may = false then (d, M, 1)
 else match M.v.app e with
  | none => (d, M, 1)
  | some v => put d M e v
end Gw
theorem Vw.whole_may {v : Vw} (h : v.ok = true) : v.whole.may = true := by
 simp only [Vw.ok, isNum, Bool.and_eq_true, decide_eq_true_eq] at h
 obtain ⟨⟨⟨⟨⟨h1, h2⟩, h3⟩, h4⟩, h5⟩, _⟩ := h
 have e1 : decide (0 ≤ v.log) = true := by simp; omega
 have e2 : decide (v.log ≤ 1073741824) = true := by simp; omega
 simp [Ed.may, Vw.whole, h3, h4, h5]
 exact ⟨e1, e2⟩
theorem Ed.rec_len {e : Ed} (h : e.may = true) : e.rec_.length ≤ 2012 := by
 have := Ed.bytes_len e h
 rw [Ed.rec_, Fr.put_length]
 omega
end
section
@[ext] structure It where
 s : Int
 k : Int
 t : Nat
 v : Nat
 x : Int
instance : DecidableEq It := fun a b => decidable_of_iff (a.s = b.s ∧ a.k = b.k ∧ a.t = b.t ∧ a.v = b.v ∧ a.x = b.x) ⟨fun ⟨h1, h2, h3, h4, h5⟩ => It.ext h1 h2 h3 h4 h5, fun h => by subst h; simp⟩
namespace It
def ok (a : It) : Bool := decide (0 ≤ a.s) && decide (a.s ≤ 255) && decide (1 ≤ a.v) && decide (a.v ≤ 281474976710656) && (a.k == 1 && a.t == 0 && a.x == 0 || a.k == 2 && decide (a.t ≤ 1099511627776))
def less (a b : It) : Bool := if a.s ≠ b.s then decide (a.s < b.s) else if a.k ≠ b.k then decide (a.k < b.k) else decide (a.t < b.t)
def same (a b : It) : Bool := !less a b && !less b a
def wins (a b : It) : Bool := decide (b.v < a.v) || a.v == b.v && decide (b.x < a.x)
def hides (t a : It) : Bool := t.k == 1 && a.k == 2 && t.s == a.s && decide (a.v ≤ t.v)
variable {a b c d t : It}
theorem less_iff : less a b = true ↔ a.s < b.s ∨ a.s = b.s ∧ (a.k < b.k ∨ a.k = b.k ∧ a.t < b.t) := by
 unfold less
 split <;> (try split) <;> simp <;> omega
theorem less_no : less a b = false ↔ ¬ (a.s < b.s ∨ a.s = b.s ∧ (a.k < b.k ∨ a.k = b.k ∧ a.t < b.t)) := by
 rw [← less_iff]; simp
theorem same_iff : same a b = true ↔ a.s = b.s ∧ a.k = b.k ∧ a.t = b.t := by
 unfold same
 simp only [Bool.and_eq_true, Bool.not_eq_true', less_no]
 omega
theorem wins_iff : wins a b = true ↔ b.v < a.v ∨ a.v = b.v ∧ b.x < a.x := by simp [wins]
theorem wins_no : wins a b = false ↔ ¬ (b.v < a.v ∨ a.v = b.v ∧ b.x < a.x) := by rw [← wins_iff]; simp
theorem hides_iff : hides t a = true ↔ t.k = 1 ∧ a.k = 2 ∧ t.s = a.s ∧ a.v ≤ t.v := by simp [hides, and_assoc]
theorem hides_no : hides t a = false ↔ ¬ (t.k = 1 ∧ a.k = 2 ∧ t.s = a.s ∧ a.v ≤ t.v) := by rw [← hides_iff]; simp
theorem less_self (a : It) : less a a = false := by rw [less_no]; omega
theorem same_self (a : It) : same a a = true := by rw [same_iff]; simp
theorem less_trans (h : less a b = true) (k : less b c = true) : less a c = true := by
 rw [less_iff] at *; omega
theorem eq_of (h : same a b = true) (k : wins a b = false) (k2 : wins b a = false) : a = b := by
 rw [same_iff] at h
 rw [wins_no] at k k2
 exact It.ext (by omega) (by omega) (by omega) (by omega) (by omega)
end It
open It
def best (L : List It) (y : It) : Prop := y ∈ L ∧ y.ok = true ∧ (∀ z ∈ L, z.ok = true → same z y = true → wins z y = false) ∧ ∀ z ∈ L, z.ok = true → hides z y = false
def Eqv (L L' : List It) : Prop := ∀ y, best L y ↔ best L' y
variable {L L' A B : List It} {x y z : It}
theorem Eqv.refl (L : List It) : Eqv L L := fun _ => Iff.rfl
theorem Eqv.symm (h : Eqv L L') : Eqv L' L := fun y => (h y).symm
theorem Eqv.trans (h : Eqv A B) (k : Eqv B L) : Eqv A L := fun y => (h y).trans (k y)
theorem winner (L : List It) (z : It) (hz : z ∈ L) (hk : z.ok = true) : ∃ y ∈ L, y.ok = true ∧ same y z = true ∧ wins z y = false ∧ ∀ u ∈ L, u.ok = true → same u y = true → wins u y = false := by
 induction L generalizing z with
 | nil => cases hz
 | cons a L ih =>
  by_cases hex : ∃ u ∈ L, u.ok = true ∧ same u z = true
  ·obtain ⟨u, hu, huk, hus⟩ := hex
   obtain ⟨y, hy, hyk, hys, _, hyw⟩ := ih u hu huk
   have hyz : same y z = true := by rw [same_iff] at *; omega
   by_cases ha : a.ok = true ∧ same a y = true ∧ wins a y = true
   ·obtain ⟨ha, has, haw⟩ := ha
    refine ⟨a, List.mem_cons_self, ha, by rw [same_iff] at *; omega, ?_, fun u hu huk hus => ?_⟩
    ·rcases List.mem_cons.1 hz with rfl | hz
     ·rw [wins_no]; omega
     ·have := hyw z hz hk (by rw [same_iff] at *; omega)
      rw [wins_iff] at haw; rw [wins_no] at *; omega
    ·rcases List.mem_cons.1 hu with rfl | hu
     ·rw [wins_no]; omega
     ·have := hyw u hu huk (by rw [same_iff] at *; omega)
      rw [wins_iff] at haw; rw [wins_no] at *; omega
   ·have hay : a.ok = true → same a y = true → wins a y = false := fun h1 h2 => by
     cases h : wins a y with
     | false => rfl
     | true => exact absurd ⟨h1, h2, h⟩ ha
    refine ⟨y, List.mem_cons_of_mem _ hy, hyk, hyz, ?_, fun u hu huk hus => ?_⟩
    ·rcases List.mem_cons.1 hz with rfl | hz
     ·exact hay hk (by rw [same_iff] at *; omega)
     ·exact hyw z hz hk (by rw [same_iff] at *; omega)
    ·rcases List.mem_cons.1 hu with rfl | hu
     ·exact hay huk hus
     ·exact hyw u hu huk hus
  ·have hz1 : z = a := by
    rcases List.mem_cons.1 hz with h | h
    ·exact h
    ·exact absurd ⟨z, h, hk, same_self z⟩ hex
   subst hz1
   refine ⟨z, List.mem_cons_self, hk, same_self z, by rw [wins_no]; omega, fun u hu huk hus => ?_⟩
   rcases List.mem_cons.1 hu with rfl | hu
   ·rw [wins_no]; omega
   ·exact absurd ⟨u, hu, huk, hus⟩ hex
theorem dominated (hz : z ∈ L) (hk : z.ok = true) : (∃ y, best L y ∧ same y z = true ∧ wins z y = false) ∨ ∃ t, best L t ∧ hides t z = true := by
 obtain ⟨y, hy, hyk, hys, hyz, hyw⟩ := winner L z hz hk
 by_cases hh : ∃ t ∈ L, t.ok = true ∧ hides t y = true
 ·obtain ⟨t, ht, htk, hth⟩ := hh
  obtain ⟨u, hu, huk, hus, hut, huw⟩ := winner L t ht htk
  rw [hides_iff] at hth
  rw [same_iff] at hus hys
  rw [wins_no] at hut hyz
  refine .inr ⟨u, ⟨hu, huk, huw, fun q _ _ => ?_⟩, ?_⟩
  ·rw [hides_no]; omega
  ·rw [hides_iff]; omega
 ·refine .inl ⟨y, ⟨hy, hyk, hyw, fun q hq hqk => ?_⟩, hys, hyz⟩
  cases h : hides q y with
  | false => rfl
  | true => exact absurd ⟨q, hq, hqk, h⟩ hh
theorem Eqv.between (h1 : ∀ y, best L y → y ∈ L') (h2 : ∀ y ∈ L', y.ok = true → y ∈ L) : Eqv L' L := by
 intro y
 constructor
 ·rintro ⟨hy, hk, hw, hh⟩
  refine ⟨h2 y hy hk, hk, fun z hz hzk hs => ?_, fun z hz hzk => ?_⟩
  ·rcases dominated hz hzk with ⟨u, hu, hus, huz⟩ | ⟨t, ht, hth⟩
   ·have := hw u (h1 u hu) hu.2.1 (by rw [same_iff] at *; omega)
    rw [wins_no] at *; omega
   ·have h3 := hh t (h1 t ht) ht.2.1
    rw [same_iff] at hs
    rw [hides_no] at h3
    rw [hides_iff] at hth
    rw [wins_no]; omega
  ·rcases dominated hz hzk with ⟨u, hu, hus, huz⟩ | ⟨t, ht, hth⟩
   ·have h3 := hh u (h1 u hu) hu.2.1
    rw [same_iff] at hus
    rw [wins_no] at huz
    rw [hides_no] at *; omega
   ·rw [hides_iff] at hth
    rw [hides_no]; omega
 ·rintro ⟨hy, hk, hw, hh⟩
  exact ⟨h1 y ⟨hy, hk, hw, hh⟩, hk, fun z hz hzk => hw z (h2 z hz hzk) hzk, fun z hz hzk => hh z (h2 z hz hzk) hzk⟩
theorem Eqv.of_mem (h : ∀ y, y.ok = true → (y ∈ L ↔ y ∈ L')) : Eqv L L' := fun y =>
 ⟨fun ⟨a, k, b, c⟩ => ⟨(h y k).1 a, k, fun z hz hk => b z ((h z hk).2 hz) hk, fun z hz hk => c z ((h z hk).2 hz) hk⟩,
  fun ⟨a, k, b, c⟩ => ⟨(h y k).2 a, k, fun z hz hk => b z ((h z hk).1 hz) hk, fun z hz hk => c z ((h z hk).1 hz) hk⟩⟩
theorem best.of_sub (h : best L y) (hy : y ∈ L') (hs : ∀ z ∈ L', z ∈ L) : best L' y := ⟨hy, h.2.1, fun z hz => h.2.2.1 z (hs z hz), fun z hz => h.2.2.2 z (hs z hz)⟩
theorem best_pre {p : It → Prop} (hp : ∀ y, p y ↔ best L y) (y : It) (l : List It) (hl : ∀ y, y ∈ l ↔ p y) : best (A ++ l) y ↔ best (A ++ L) y := by
 refine Eqv.between (L := A ++ L) (fun y hy => ?_) (fun y hy _ => ?_) y
 ·rcases List.mem_append.1 hy.1 with h | h
  ·exact List.mem_append_left _ h
  ·exact List.mem_append_right _ ((hl y).2 ((hp y).2 (hy.of_sub h (fun z hz => List.mem_append_right _ hz))))
 ·rcases List.mem_append.1 hy with h | h
  ·exact List.mem_append_left _ h
  ·exact List.mem_append_right _ ((hp y).1 ((hl y).1 h)).1
def Rises (l : List It) : Prop := l.Pairwise (fun a b => less a b = true)
instance (l : List It) : Decidable (Rises l) := by unfold Rises; infer_instance
structure Stt (l : List It) : Prop where
 rises : Rises l
 ok : ∀ y ∈ l, y.ok = true
 bare : ∀ a ∈ l, ∀ b ∈ l, hides a b = false
theorem rises_inj {l : List It} (h : Rises l) {a b : It} (ha : a ∈ l) (hb : b ∈ l) (hs : same a b = true) : a = b := by
 induction l with
 | nil => cases ha
 | cons c l ih =>
  obtain ⟨h1, h2⟩ := List.pairwise_cons.1 h
  rw [same_iff] at hs
  rcases List.mem_cons.1 ha with e1 | e1 <;> rcases List.mem_cons.1 hb with e2 | e2
  ·rw [e1, e2]
  ·have := h1 b e2; rw [← e1, less_iff] at this; omega
  ·have := h1 a e1; rw [← e2, less_iff] at this; omega
  ·exact ih h2 e1 e2
theorem Stt.best {l : List It} (h : Stt l) (y : It) : y ∈ l ↔ best l y :=
 ⟨fun hy => ⟨hy, h.ok y hy, fun z hz _ hs => by rw [rises_inj h.rises hz hy hs, wins_no]; omega, fun z hz _ => h.bare z hz y hy⟩, fun hy => hy.1⟩
theorem rises_eq : ∀ {l l' : List It}, Rises l → Rises l' → (∀ y, y ∈ l ↔ y ∈ l') → l = l'
 | [], [], _, _, _ => rfl
 | [], b :: r, _, _, h => absurd ((h b).2 List.mem_cons_self) (by simp)
 | a :: r, [], _, _, h => absurd ((h a).1 List.mem_cons_self) (by simp)
 | a :: r, b :: q, h1, h2, h => by
  obtain ⟨a1, a2⟩ := List.pairwise_cons.1 h1
  obtain ⟨b1, b2⟩ := List.pairwise_cons.1 h2
  have hab : a = b := by
   rcases List.mem_cons.1 ((h a).1 List.mem_cons_self) with e | e
   ·exact e
   ·rcases List.mem_cons.1 ((h b).2 List.mem_cons_self) with f | f
    ·exact f.symm
    ·have h3 := b1 a e
     have h4 := a1 b f
     rw [less_iff] at h3 h4
     omega
  subst hab
  congr 1
  refine rises_eq a2 b2 fun y => ⟨fun hy => ?_, fun hy => ?_⟩
  ·rcases List.mem_cons.1 ((h y).1 (List.mem_cons_of_mem _ hy)) with e | e
   ·subst e
    have := a1 y hy
    rw [less_self] at this
    cases this
   ·exact e
  ·rcases List.mem_cons.1 ((h y).2 (List.mem_cons_of_mem _ hy)) with e | e
   ·subst e
    have := b1 y hy
    rw [less_self] at this
    cases this
   ·exact e
theorem Stt.eq_of {l l' : List It} (h : Stt l) (h' : Stt l') (he : ∀ y, y ∈ l ↔ y ∈ l') : l = l' := rises_eq h.rises h'.rises he
theorem Stt.filter {l : List It} (h : Stt l) (p : It → Bool) : Stt (l.filter p) :=
 ⟨h.rises.filter _, fun y hy => h.ok y (List.mem_filter.1 hy).1, fun a ha b hb => h.bare a (List.mem_filter.1 ha).1 b (List.mem_filter.1 hb).1⟩
theorem Stt.nil : Stt [] := ⟨List.Pairwise.nil, (by simp), (by simp)⟩
def pos (l : List It) (x : It) : Nat := (l.takeWhile fun a => less a x).length
def put (l : List It) (x : It) : List It := l.filter (fun y => less y x) ++ x :: l.filter (fun y => less x y)
def hidden (l : List It) (x : It) : Bool := l.any fun t => hides t x
def beaten (l : List It) (x : It) : Bool := l.any fun y => same y x && !wins x y
def add (l : List It) (x : It) : List It := if (!x.ok || hidden l x || beaten l x) = true then l else (put l x).filter fun y => !hides x y
def joins (a b : List It) : List It := b.foldl add a
theorem pos_le (l : List It) (x : It) : pos l x ≤ l.length := by
 unfold pos
 exact (List.takeWhile_prefix _).length_le
theorem split_pos {l : List It} (h : Rises l) (x : It) : l.take (pos l x) = l.filter (fun y => less y x) ∧ l.drop (pos l x) = l.filter (fun y => !less y x) := by
 induction l with
 | nil => simp [pos]
 | cons a r ih =>
  obtain ⟨a1, a2⟩ := List.pairwise_cons.1 h
  have ih := ih a2
  unfold pos at ih ⊢
  cases hl : less a x with
  | true => simp only [List.takeWhile_cons, hl, if_true, List.length_cons, List.take_succ_cons, List.drop_succ_cons, List.filter_cons, ih, Bool.not_true, Bool.false_eq_true, if_false, and_self]
  | false =>
   have h1 : ∀ y ∈ r, less y x = false := fun y hy => by
    have := a1 y hy
    rw [less_iff] at this
    rw [less_no] at *
    omega
   have h2 : r.filter (fun y => less y x) = [] := List.filter_eq_nil_iff.2 (fun y hy => by simp [h1 y hy])
   have h3 : r.filter (fun y => !less y x) = r := List.filter_eq_self.2 (fun y hy => by simp [h1 y hy])
   simp [List.takeWhile_cons, hl, h2, h3]
theorem mem_put {l : List It} : y ∈ put l x ↔ y = x ∨ y ∈ l ∧ same y x = false := by
 unfold put
 simp only [List.mem_append, List.mem_filter, List.mem_cons]
 have : same y x = false ↔ less y x = true ∨ less x y = true := by
  unfold same
  cases less y x <;> cases less x y <;> simp
 rw [this]
 constructor
 ·rintro (h | h | h)
  ·exact .inr ⟨h.1, .inl h.2⟩
  ·exact .inl h
  ·exact .inr ⟨h.1, .inr h.2⟩
 ·rintro (h | ⟨h, k | k⟩)
  ·exact .inr (.inl h)
  ·exact .inl ⟨h, k⟩
  ·exact .inr (.inr ⟨h, k⟩)
theorem rises_put {l : List It} (h : Rises l) : Rises (put l x) := by
 unfold put Rises
 refine List.pairwise_append.2 ⟨h.filter _, List.pairwise_cons.2 ⟨fun y hy => (List.mem_filter.1 hy).2, h.filter _⟩, fun a ha b hb => ?_⟩
 have h1 := (List.mem_filter.1 ha).2
 rcases List.mem_cons.1 hb with rfl | hb
 ·exact h1
 ·exact less_trans h1 (List.mem_filter.1 hb).2
theorem put_insert {l : List It} (h : Rises l) (hn : ∀ y, l[pos l x]? = some y → same y x = false) : put l x = l.take (pos l x) ++ x :: l.drop (pos l x) := by
 obtain ⟨h1, h2⟩ := split_pos h x
 unfold put
 rw [h1]
 congr 2
 have hd : ∀ y ∈ l.drop (pos l x), less x y = true := fun y hy => by
  have hs := h.sublist (List.drop_sublist (pos l x) l)
  have hy2 : less y x = false := by rw [h2] at hy; simpa using (List.mem_filter.1 hy).2
  cases hdr : l.drop (pos l x) with
  | nil => rw [hdr] at hy; cases hy
  | cons c r =>
   have hc : l[pos l x]? = some c := by
    have := List.getElem?_drop (xs := l) (i := pos l x) (j := 0)
    rw [hdr] at this
    simpa using this.symm
   have hcs := hn c hc
   have hcl : less c x = false := by
    have : c ∈ l.drop (pos l x) := by rw [hdr]; simp
    rw [h2] at this
    simpa using (List.mem_filter.1 this).2
   have hxc : less x c = true := by
    unfold same at hcs
    rw [hcl] at hcs
    simpa using hcs
   rw [hdr] at hy hs
   obtain ⟨p1, _⟩ := List.pairwise_cons.1 hs
   rcases List.mem_cons.1 hy with rfl | hy
   ·exact hxc
   ·exact less_trans hxc (p1 y hy)
 have e : l.filter (fun y => less x y) = (l.drop (pos l x)).filter (fun y => less x y) := by
  conv => lhs; rw [← List.take_append_drop (pos l x) l, List.filter_append]
  rw [List.filter_eq_nil_iff.2, List.nil_append]
  intro y hy
  rw [h1] at hy
  have := (List.mem_filter.1 hy).2
  rw [less_iff] at this
  simp only [Bool.not_eq_true, less_no]
  omega
 rw [e]
 exact List.filter_eq_self.2 hd
theorem put_set {l : List It} (h : Rises l) {c : It} (hc : l[pos l x]? = some c) (hs : same c x = true) : put l x = l.set (pos l x) x := by
 have hp : pos l x < l.length := (List.getElem?_eq_some_iff.1 hc).1
 have hcg := (List.getElem?_eq_some_iff.1 hc).2
 refine rises_eq (rises_put h) ?_ (fun y => ?_)
 ·unfold Rises
  rw [List.set_eq_take_append_cons_drop, if_pos hp]
  have h0 : Rises (l.take (pos l x) ++ c :: l.drop (pos l x + 1)) := by
   rw [← hcg, List.getElem_cons_drop, List.take_append_drop]; exact h
  obtain ⟨b1, b2, b3⟩ := List.pairwise_append.1 h0
  obtain ⟨b4, b5⟩ := List.pairwise_cons.1 b2
  rw [same_iff] at hs
  refine List.pairwise_append.2 ⟨b1, List.pairwise_cons.2 ⟨fun y hy => ?_, b5⟩, fun a ha b hb => ?_⟩
  ·have := b4 y hy
   rw [less_iff] at *; omega
  ·rcases List.mem_cons.1 hb with rfl | hb
   ·have := b3 a ha c (by simp)
    rw [less_iff] at *; omega
   ·exact b3 a ha b (by simp [hb])
 ·rw [mem_put]
  constructor
  ·rintro (rfl | ⟨hy, hn⟩)
   ·exact List.mem_set hp _
   ·obtain ⟨i, hi, rfl⟩ := List.getElem_of_mem hy
    have hne : pos l x ≠ i := fun e => by subst e; rw [hcg, hs] at hn; cases hn
    exact List.mem_iff_getElem.2 ⟨i, by simpa using hi, by rw [List.getElem_set, if_neg hne]⟩
  ·intro hy
   obtain ⟨i, hi, rfl⟩ := List.getElem_of_mem hy
   simp only [List.length_set] at hi
   rw [List.getElem_set]
   split
   ·exact .inl rfl
   ·rename_i hne
    refine .inr ⟨List.getElem_mem _, ?_⟩
    cases hq : same l[i] x with
    | false => rfl
    | true =>
     exfalso
     have : l[i] = c := rises_inj h (List.getElem_mem _) (by rw [← hcg]; exact List.getElem_mem _) (by rw [same_iff] at *; omega)
     rw [← hcg] at this
     have h3 := List.pairwise_iff_getElem.1 h
     rcases Nat.lt_or_gt_of_ne hne with h4 | h4
     ·have := h3 _ _ hp hi h4
      simp_all [less_self]
     ·have := h3 _ _ hi hp h4
      simp_all [less_self]
theorem add_stt {l : List It} (h : Stt l) : Stt (add l x) ∧ ∀ y, y ∈ add l x ↔ best (x :: l) y := by
 unfold add
 split
 ·rename_i hc
  refine ⟨h, fun y => (h.best y).trans (Eqv.between (L := x :: l) (L' := l) (fun y hy => ?_) (fun y hy _ => List.mem_cons_of_mem _ hy) y)⟩
  rcases List.mem_cons.1 hy.1 with rfl | h1
  ·obtain ⟨_, hk, hw, hh⟩ := hy
   simp only [Bool.or_eq_true, Bool.not_eq_true', hidden, beaten, List.any_eq_true, Bool.and_eq_true] at hc
   rcases hc with (hc | ⟨t, ht, hc⟩) | ⟨z, hz, hs, hc⟩
   ·rw [hc] at hk; cases hk
   ·rw [hh t (List.mem_cons_of_mem _ ht) (h.ok t ht)] at hc; cases hc
   ·have h2 := hw z (List.mem_cons_of_mem _ hz) (h.ok z hz) hs
    rw [← It.eq_of hs h2 hc]
    exact hz
  ·exact h1
 ·rename_i hc
  have hc : (!x.ok || hidden l x || beaten l x) = false := by simpa using hc
  simp only [Bool.or_eq_false_iff, Bool.not_eq_false', hidden, beaten, List.any_eq_false, Bool.and_eq_true, not_and, Bool.not_eq_true', Bool.not_eq_true, Bool.not_eq_false] at hc
  obtain ⟨⟨hk, hh⟩, hb⟩ := hc
  have hxx : hides x x = false := by rw [hides_no]; omega
  refine ⟨⟨(rises_put h.rises).filter _, fun y hy => ?_, fun a ha b hb2 => ?_⟩, fun y => ?_⟩
  ·rcases mem_put.1 (List.mem_filter.1 hy).1 with rfl | ⟨h1, _⟩
   ·exact hk
   ·exact h.ok y h1
  ·obtain ⟨ha1, ha2⟩ := List.mem_filter.1 ha
   obtain ⟨hb1, hb3⟩ := List.mem_filter.1 hb2
   rcases mem_put.1 ha1 with rfl | ⟨h1, _⟩
   ·simpa using hb3
   ·rcases mem_put.1 hb1 with rfl | ⟨h2, _⟩
    ·exact hh a h1
    ·exact h.bare a h1 b h2
  ·rw [List.mem_filter, mem_put]
   constructor
   ·rintro ⟨rfl | ⟨hy, hn⟩, hf⟩
    ·refine ⟨List.mem_cons_self, hk, fun z hz _ hs => ?_, fun z hz _ => ?_⟩
     ·rcases List.mem_cons.1 hz with rfl | hz
      ·rw [wins_no]; omega
      ·have := hb z hz hs
       rw [wins_iff] at this
       rw [wins_no]; omega
     ·rcases List.mem_cons.1 hz with rfl | hz
      ·exact hxx
      ·exact hh z hz
    ·have hf : hides x y = false := by simpa using hf
     refine ⟨List.mem_cons_of_mem _ hy, h.ok y hy, fun z hz _ hs => ?_, fun z hz _ => ?_⟩
     ·rcases List.mem_cons.1 hz with rfl | hz
      ·rw [same_iff] at hs
       exfalso
       have : same y z = true := by rw [same_iff]; omega
       rw [this] at hn; cases hn
      ·rw [rises_inj h.rises hz hy hs, wins_no]; omega
     ·rcases List.mem_cons.1 hz with rfl | hz
      ·exact hf
      ·exact h.bare z hz y hy
   ·rintro ⟨hy, hyk, hw, hh2⟩
    have hf := hh2 x List.mem_cons_self hk
    refine ⟨?_, by simp [hf]⟩
    rcases List.mem_cons.1 hy with h1 | h1
    ·exact .inl h1
    ·refine .inr ⟨h1, ?_⟩
     cases hs : same y x with
     | false => rfl
     | true =>
      have h2 := hb y h1 hs
      have h3 := hw x List.mem_cons_self hk (by rw [same_iff] at *; omega)
      rw [h2] at h3; cases h3
theorem joins_stt (b : List It) : ∀ {a : List It}, Stt a → Stt (joins a b) ∧ ∀ y, y ∈ joins a b ↔ best (b ++ a) y := by
 induction b with
 | nil => exact fun h => ⟨h, h.best⟩
 | cons x b ih =>
  intro a h
  obtain ⟨h1, h2⟩ := add_stt (x := x) h
  obtain ⟨h3, h4⟩ := ih h1
  refine ⟨h3, fun y => (h4 y).trans ((best_pre (p := fun y => y ∈ add a x) (L := x :: a) h2 y (add a x) (fun y => Iff.rfl)).trans ?_)⟩
  exact Eqv.of_mem (fun y _ => by simp [or_left_comm]) y
theorem joins_append (a b c : List It) : joins a (b ++ c) = joins (joins a b) c := by simp [joins]
theorem put_len (l : List It) (x : It) : (put l x).length ≤ l.length + 1 := by
 have h1 : (l.filter (fun y => less y x)).length + (l.filter (fun y => less x y)).length ≤ l.length := by
  induction l with
  | nil => simp
  | cons a r ih =>
   simp only [List.filter_cons, List.length_cons]
   cases h1 : less a x <;> cases h2 : less x a
   ·simp only [Bool.false_eq_true, if_false]; omega
   ·simp only [Bool.false_eq_true, if_false, if_true, List.length_cons]; omega
   ·simp only [Bool.false_eq_true, if_false, if_true, List.length_cons]; omega
   ·rw [less_iff] at h1 h2; omega
 unfold put
 simp only [List.length_append, List.length_cons]
 omega
theorem add_len (l : List It) (x : It) : (add l x).length ≤ l.length + 1 := by
 unfold add
 split
 ·omega
 ·exact Nat.le_trans (List.length_filter_le _ _) (put_len l x)
theorem joins_len (b : List It) : ∀ a : List It, (joins a b).length ≤ a.length + b.length := by
 induction b with
 | nil => intro a; simp [joins]
 | cons x b ih =>
  intro a
  have h1 := ih (add a x)
  have h2 := add_len a x
  simp only [joins, List.foldl_cons, List.length_cons] at *
  omega
end
section
open It
def win (L : List It) (y : It) : Prop := y ∈ L ∧ ∀ z ∈ L, same z y = true → wins z y = false
def wput (l : List It) (x : It) : List It := if beaten l x = true then l else put l x
def winners (L : List It) : List It := L.foldl wput []
variable {L : List It} {x y : It}
end
section
open It
def sgn (x : Int) : Nat := if 0 ≤ x then (2 * x).toNat else (-2 * x - 1).toNat
def unsgn (n : Nat) : Int := if n % 2 = 0 then (n / 2 : Nat) else -((n / 2 : Nat) : Int) - 1
theorem sgn_lt {x : Int} (h1 : -9223372036854775808 ≤ x) (h2 : x < 9223372036854775808) : sgn x < 2 ^ 64 := by
 unfold sgn
 split <;> omega
namespace It
def fit (a : It) : Prop := -9223372036854775808 ≤ a.x ∧ a.x < 9223372036854775808
def one (a : It) : List UInt8 := UInt8.ofNat a.s.toNat :: UInt8.ofNat a.k.toNat :: (Pn.put a.t ++ (Pn.put a.v ++ Pn.put (sgn a.x)))
def bytes (l : List It) : List UInt8 := Pn.put l.length ++ l.flatMap one
def take1 (b : List UInt8) : It × List UInt8 × Nat :=
 if b.length < 2 then (⟨0, 0, 0, 0, 0⟩, [], 4) else
 match Pn.take (b.drop 2) with
 | (t, n1, 0) => match Pn.take ((b.drop 2).drop n1) with
  | (v, n2, 0) => match Pn.take (((b.drop 2).drop n1).drop n2) with
   | (x, n3, 0) => (⟨Fr.u b 0, Fr.u b 1, t, v, unsgn x⟩, ((b.drop 2).drop n1 |>.drop n2).drop n3, 0)
   | (_, _, e) => (⟨0, 0, 0, 0, 0⟩, [], e)
  | (_, _, e) => (⟨0, 0, 0, 0, 0⟩, [], e)
 | (_, _, e) => (⟨0, 0, 0, 0, 0⟩, [], e)
def takes : Nat → List UInt8 → List It → List It × List UInt8 × Nat
 | 0, b, out => (out, b, 0)
 | n + 1, b, out => match take1 b with
  | (x, r, 0) => takes n r (out ++ [x])
  | (_, _, e) => ([], [], e)
def read (b : List UInt8) : List It × Nat := match Pn.take b with
 | (n, size, 0) => if 2000 < n then ([], 2) else match takes n (b.drop size) [] with
  | (out, r, 0) => if r = [] ∧ out.all ok = true then (out, 0) else ([], 3)
  | (_, _, e) => ([], e)
 | (_, _, e) => ([], e)
theorem ok_iff {a : It} : a.ok = true ↔ 0 ≤ a.s ∧ a.s ≤ 255 ∧ 1 ≤ a.v ∧ a.v ≤ 281474976710656 ∧ (a.k = 1 ∧ a.t = 0 ∧ a.x = 0 ∨ a.k = 2 ∧ a.t ≤ 1099511627776) := by
 simp [ok, and_assoc]
theorem one_len (a : It) : 2 ≤ a.one.length ∧ a.one.length ≤ 32 := by
 have h1 := Pn.put_len a.t
 have h2 := Pn.put_len a.v
 have h3 := Pn.put_len (sgn a.x)
 simp only [one, List.length_cons, List.length_append]
 omega
theorem bytes_len (l : List It) : (bytes l).length ≤ 10 + 32 * l.length := by
 have h1 := Pn.put_len l.length
 have h2 : ∀ l : List It, (l.flatMap one).length ≤ 32 * l.length := fun l => by
  induction l with
  | nil => simp
  | cons a l ih => have := one_len a; simp only [List.flatMap_cons, List.length_append, List.length_cons]; omega
 have := h2 l
 simp only [bytes, List.length_append]
 omega
def key (a : It) : List UInt8 := UInt8.ofNat a.s.toNat :: UInt8.ofNat a.k.toNat :: [56, 48, 40, 32, 24, 16, 8, 0].map fun k => UInt8.ofNat (a.t / 2 ^ k)
end It
end
section
open It
namespace Tb
def cut (n : Nat) : Nat → List It → List (List It)
 | 0, _ => []
 | f + 1, l => if l = [] then [] else l.take n :: cut n f (l.drop n)
def rows (l : List It) : List (List It) := cut 20 l.length l
def may (l : List It) : Bool := decide (l ≠ []) && decide (Rises l) && l.all ok
def blocks (l : List (List It)) : List UInt8 := l.flatMap fun r => Fr.put 2 (It.bytes r)
def index : Nat → List (List It) → List UInt8
 | _, [] => []
 | p, r :: l => Pn.put p ++ (It.bytes (r.take 1) ++ index (p + (Fr.put 2 (It.bytes r)).length) l)
def fsize (n : Nat) : Nat := (max (n * 10) 64 + 7) / 8
def places (size : Nat) (key : List UInt8) : List Nat := (List.range 7).map fun i => (((Fnv.hash key).toNat % 4294967296 + i * ((Fnv.hash key).toNat / 4294967296)) % 4294967296) % (size * 8)
def setBit (b : List UInt8) (i : Nat) : List UInt8 := b.set (i / 8) (b.getD (i / 8) 0 ||| UInt8.ofNat (2 ^ (i % 8)))
def addKey (b : List UInt8) (key : List UInt8) : List UInt8 := (places b.length key).foldl setBit b
def bits (l : List It) : List UInt8 := l.foldl (fun b a => addKey b a.key) (List.replicate (fsize l.length) 0)
def filt (l : List It) : List UInt8 := Pn.put 7 ++ (Pn.put (bits l).length ++ bits l)
def make (l : List It) : List UInt8 :=
 let a := blocks (rows l)
 let b := a ++ Fr.put 3 (index 0 (rows l))
 b ++ (Fr.put 4 (filt l) ++ Fr.put 5 (Pn.put a.length ++ (Pn.put b.length ++ Pn.put l.length)))
def good (l : List It) : Bool := decide (l.length ≤ 2000) && decide (Rises l) && l.all ok
end Tb
namespace Lg
def batch (l : List It) : List UInt8 := Fr.put 1 (It.bytes l)
def text (ls : List (List It)) : List UInt8 := Fr.all 1 (ls.map It.bytes)
theorem batch_len (l : List It) : (batch l).length ≤ 22 + 32 * l.length := by
 have := It.bytes_len l
 rw [batch, Fr.put_length]; omega
end Lg
end
section
open Go
structure Sv where
 M : Gs
 nm : List UInt8
 sz : Nat
 ct : Nat
 mem : List It
 tabs : List ((Int × Int) × List (List It))
 st : List It
 only : Bool
namespace St
def kLog1 : List UInt8 := [108, 111, 103, 46, 49]
def kMan1 : List UInt8 := [109, 97, 110, 46, 49]
def isOwn (s : List UInt8) : Bool := (s == Mw.kCur || s == Mw.kTemp) || [Mn.kLog, Mn.kTab, Mn.kMan].any fun k => (Mn.number s k).isSome
def isNone (S : Sd) (s : List UInt8) : Bool := (s == Mw.kTemp || s == kMan1) || (s == kLog1 && (S.read s).1.length == 0)
def isNew (S : Sd) : Bool := !(S.list.any fun s => isOwn s && !isNone S s)
def wipe : List (List UInt8) → Sd → Sd × Nat
 | [], S => (S, 0)
 | s :: r, S => if isOwn s = true then (if (S.remove s).2 = 0 then wipe r (S.remove s).1 else S.remove s) else wipe r S
def first : Gs := ⟨[], ⟨1, [], 0, 0, 0, 0⟩, 0, false⟩
def create (S : Sd) : Sd × Option Sv × Nat :=
 let a := wipe S.list S
 if a.2 ≠ 0 then (a.1, none, a.2) else
 let b := a.1.create kLog1
 if b.2 ≠ 0 then (b.1, none, b.2) else
 let c := b.1.sync kLog1
 if c.2 ≠ 0 then (c.1, none, c.2) else
 let r := Gw.rewrite c.1 first (Mn.name Mn.kMan 1)
 if r.2.2 ≠ 0 then (r.1, none, r.2.2) else (r.1, some ⟨r.2.1, kLog1, 0, 0, [], [], [], false⟩, 0)
def number (S : Sd) : Int := max (Mn.greatest S.list Mn.kLog) (Mn.greatest S.list Mn.kTab) + 1
def write (S : Sd) (l : List It) : Sd × Nat :=
 if 1073741824 < number S then (S, 65) else
 let s := Mn.name Mn.kTab (number S)
 let a := S.create s
 if a.2 ≠ 0 then a else
 let b := a.1.append s (Tb.make l)
 if b.2 ≠ 0 then b else b.1.sync s
def fresh (S : Sd) : Sd × Nat :=
 if 1073741824 < number S then (S, 65) else
 let s := Mn.name Mn.kLog (number S)
 let a := S.create s
 if a.2 ≠ 0 then a else a.1.sync s
def saved (S : Sd) (V : Sv) (x : Ed) : Sd × Sv × Nat :=
 let r := Gw.save S V.M x
 (r.1, { V with M := r.2.1, only := V.only || r.2.1.broken }, r.2.2)
def turn (S : Sd) (V : Sv) (x : Ed) (D : Sv → Sv) : Sd × Sv × Nat :=
 if S.syncDir.2 ≠ 0 then (S.syncDir.1, V, S.syncDir.2) else
 let r := saved S.syncDir.1 V x
 if r.2.2 = 0 ∨ r.2.1.only = true then (r.1, D r.2.1, r.2.2) else r
def live (V : Sv) : List It := V.mem.filter fun x => decide (x ∈ V.st)
def turned (n : Int) (tabs : List ((Int × Int) × List (List It))) (V : Sv) : Sv := { V with nm := Mn.name Mn.kLog n, sz := 0, ct := 0, mem := [], tabs := tabs }
def flush2 (S : Sd) (V : Sv) (add : List (Int × Int)) (tabs : List ((Int × Int) × List (List It))) : Sd × Sv × Nat :=
 let b := fresh S
 if b.2 ≠ 0 then (b.1, V, b.2) else
 let r := turn b.1 V ⟨[], add, number S, 0, 0, 0, 0⟩ (turned (number S) tabs)
 if r.2.2 = 0 then ((r.1.remove (Mn.name Mn.kLog V.M.v.log)).1, r.2.1, 0) else r
def flush (S : Sd) (V : Sv) : Sd × Sv × Nat :=
 if V.only = true then (S, V, 14) else
 if V.ct = 0 then (S, V, 0) else
 if 30 ≤ V.tabs.length then (S, V, 65) else
 if live V = [] then flush2 S V [] V.tabs else
 let a := write S (live V)
 if a.2 ≠ 0 then (a.1, V, a.2) else flush2 a.1 V [(0, number S)] (V.tabs ++ [((0, number S), Tb.rows (live V))])
def apply (S : Sd) (V : Sv) (l : List It) : Sd × Sv × Nat :=
 if V.only = true then (S, V, 14) else
 if l = [] ∨ l.all It.ok = false then (S, V, 1) else
 if 1000 < l.length then (S, V, 2) else
 if 1500 < (joins V.st l).length then (S, V, 2) else
 let a := S.append V.nm (Lg.batch l)
 if a.2 ≠ 0 then (a.1, V, a.2) else (a.1, { V with sz := V.sz + (Lg.batch l).length, ct := V.ct + 1, mem := l.foldl wput V.mem, st := joins V.st l }, 0)
end St
end
section
open Go Go.RowKit
theorem gflat_len {α : Type} (f : α → List Value) (sz : Nat) (hf : ∀ x, (f x).length = sz) (l : List α) : (l.flatMap f).length = l.length * sz := by
 induction l with
 | nil => simp
 | cons h t ih => rw [List.flatMap_cons, List.length_append, ih, hf, List.length_cons, Nat.add_mul]; omega
theorem gflat_get {α : Type} (f : α → List Value) (sz : Nat) (hf : ∀ x, (f x).length = sz) : ∀ (l : List α) (k j : Nat) (hk : k < l.length), j < sz → (l.flatMap f)[k * sz + j]? = (f l[k])[j]?
 | h :: t, 0, j, _, hj => by
  rw [List.flatMap_cons, List.getElem?_append_left (by rw [hf]; omega)]
  simp
 | h :: t, k + 1, j, hk, hj => by
  have e : (k + 1) * sz + j - (f h).length = k * sz + j := by rw [hf, Nat.add_mul]; omega
  rw [List.flatMap_cons, List.getElem?_append_right (by rw [hf, Nat.add_mul]; omega), e, gflat_get f sz hf t k j (by simpa using hk) hj]
  simp
theorem row_cell {B n sz : Nat} {w : World} {A : Option Addr} {vs : List Value} (h : Row B w A n sz vs) {i : Nat} {v : Value} (hv : vs[i]? = some v) : ∃ a, A = some a ∧ a.block < B ∧ w.cell? (a.add i) = some v := by
 obtain ⟨hi, e⟩ := List.getElem?_eq_some_iff.1 hv
 obtain ⟨a, ea, hb, hc⟩ := h.cell i hi
 exact ⟨a, ea, hb, by rw [hc, e]⟩
end
section
open Go Go.RowKit
theorem iadd_at (a : Addr) (k : Nat) {j : Nat} (hj : 0 < j) : a.add (k + j) = ⟨(a.add k).block, (a.add k).off + j, none⟩ := by
 rw [← add_twice, Addr.add, if_neg (by omega)]
def It.cells (a : It) : List Value := [.int .i64 a.s, .int .i64 a.k, .int .u64 (a.t : Int), .int .u64 (a.v : Int), .int .i64 a.x]
def It.val (a : It) : Value := .agg #[.int .i64 a.s, .int .i64 a.k, .int .u64 (a.t : Int), .int .u64 (a.v : Int), .int .i64 a.x]
theorem It.cells_len (a : It) : a.cells.length = 5 := rfl
theorem ret_bo {a b : Bool} (h : a = b) : Ending.returned (.bool a) = .returned (.bool b) := by rw [h]
def itc (l : List It) : List Value := l.flatMap It.cells
theorem itc_length (l : List It) : (itc l).length = l.length * 5 := gflat_len It.cells 5 It.cells_len l
theorem itc_get (l : List It) (k j : Nat) (hk : k < l.length) (hj : j < 5) : (itc l)[k * 5 + j]? = (l[k]).cells[j]? := gflat_get It.cells 5 It.cells_len l k j hk hj
theorem itc_append (a b : List It) : itc (a ++ b) = itc a ++ itc b := by simp [itc]
theorem itc_one (l : List It) : ∀ u ∈ itc l, u.oneCell' = true := by
 intro u hu
 simp only [itc, List.mem_flatMap, It.cells, List.mem_cons, List.not_mem_nil, or_false] at hu
 obtain ⟨a, _, rfl | rfl | rfl | rfl | rfl⟩ := hu <;> rfl
theorem itc_take (l : List It) (k : Nat) : itc (l.take k) = (itc l).take (k * 5) := by
 induction l generalizing k with
 | nil => simp [itc]
 | cons a l ih =>
  cases k with
  | zero => simp [itc]
  | succ k =>
   have e : (k + 1) * 5 = k * 5 + 5 := by omega
   have h := ih k
   unfold itc at h ⊢
   rw [List.take_succ_cons, List.flatMap_cons, List.flatMap_cons, h, e]
   rfl
theorem itc_drop (l : List It) (k : Nat) : itc (l.drop k) = (itc l).drop (k * 5) := by
 induction l generalizing k with
 | nil => simp [itc]
 | cons a l ih =>
  cases k with
  | zero => simp [itc]
  | succ k =>
   have e : (k + 1) * 5 = k * 5 + 5 := by omega
   have h := ih k
   unfold itc at h ⊢
   rw [List.drop_succ_cons, List.flatMap_cons, h, e]
   rfl
structure ItAt (w : World) (a : Addr) (k : Nat) (x : It) : Prop where
 c0 : w.cell? (a.add (k * 5)) = some (.int .i64 x.s)
 c1 : w.cell? ⟨(a.add (k * 5)).block, (a.add (k * 5)).off + 1, none⟩ = some (.int .i64 x.k)
 c2 : w.cell? ⟨(a.add (k * 5)).block, (a.add (k * 5)).off + 2, none⟩ = some (.int .u64 (x.t : Int))
 c3 : w.cell? ⟨(a.add (k * 5)).block, (a.add (k * 5)).off + 3, none⟩ = some (.int .u64 (x.v : Int))
 c4 : w.cell? ⟨(a.add (k * 5)).block, (a.add (k * 5)).off + 4, none⟩ = some (.int .i64 x.x)
variable {B B' n : Nat} {w w' : World} {A : Option Addr} {xs : List It}
theorem Row.itlen (h : Row B w A n 5 (itc xs)) : xs.length = n := by
 have := h.len
 rw [itc_length] at this
 omega
theorem Row.it (h : Row B w A n 5 (itc xs)) {k : Nat} (hk : k < n) : ∃ a, ∃ hl : k < xs.length, A = some a ∧ a.block < B ∧ ItAt w a k xs[k] := by
 have hl : k < xs.length := by have := h.itlen; omega
 have g := fun j (hj : j < 5) => itc_get xs k j hl hj
 obtain ⟨a, ea, hb, c0⟩ := row_cell h (g 0 (by omega))
 have cd : ∀ j v, 0 < j → j < 5 → (It.cells xs[k])[j]? = some v → w.cell? ⟨(a.add (k * 5)).block, (a.add (k * 5)).off + j, none⟩ = some v := fun j v h0 hj hv => by
  obtain ⟨a', ea', _, c⟩ := row_cell h ((g j hj).trans hv)
  rw [ea] at ea'
  injection ea' with ea'
  subst ea'
  rw [← iadd_at a (k * 5) h0]
  exact c
 exact ⟨a, hl, ea, hb, ⟨c0, cd 1 _ (by omega) (by omega) rfl, cd 2 _ (by omega) (by omega) rfl, cd 3 _ (by omega) (by omega) rfl, cd 4 _ (by omega) (by omega) rfl⟩⟩
theorem ItAt.below {a : Addr} {k : Nat} {x : It} (h : ItAt w a k x) (ha : a.block < B) (hb : Below B w w') : ItAt w' a k x := by
 have e : (a.add (k * 5)).block < B := by rw [add_block]; exact ha
 exact ⟨(hb.cell e).trans h.c0, (hb.cell (p := ⟨(a.add (k * 5)).block, (a.add (k * 5)).off + 1, none⟩) e).trans h.c1, (hb.cell (p := ⟨(a.add (k * 5)).block, (a.add (k * 5)).off + 2, none⟩) e).trans h.c2, (hb.cell (p := ⟨(a.add (k * 5)).block, (a.add (k * 5)).off + 3, none⟩) e).trans h.c3, (hb.cell (p := ⟨(a.add (k * 5)).block, (a.add (k * 5)).off + 4, none⟩) e).trans h.c4⟩
end
end Go.Proofs.YtdkjoigpahafmaaGreatDoor
