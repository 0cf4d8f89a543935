/- Texts PlainEdit, FrameA, Open, FrameB, Split, Reader, EditA, EditB, EditC, EditD, EditE, EditF, PlainMan, PlainManG in one. No conditions. -/
import Derived.Test.YtdkjoigpahafmaaGreatDoorBunAC
import Derived.Test.YtdkjoigpahafmaaGreatDoorShelf
import Derived.Test.YtdkjoigpahafmaaGreatDoorBunAA
import Derived.Deep.RegionWith
import Derived.Deep.DeepCutAuto
import Derived.Lib.MinMax
import Derived.StillTailTactics
import Derived.Deep.CutBlock
import Derived.Test.YtdkjoigpahafmaaGreatDoorBunAB

set_option linter.unusedSimpArgs false
set_option linter.unusedVariables false
set_option maxRecDepth 100000
set_option maxHeartbeats 16000000
namespace Go.Proofs.YtdkjoigpahafmaaGreatDoor
section
structure Vw where
 log : Int
 files : List (Int × Int)
 floor : Nat
 cert : Nat
 at_ : Nat
 lease : Nat
structure Ed where
 drop : List Int
 add : List (Int × Int)
 log : Int
 floor : Nat
 cert : Nat
 at_ : Nat
 lease : Nat
def isNum (n : Int) : Bool := decide (1 ≤ n) && decide (n ≤ 1073741824)
def isFile (f : Int × Int) : Bool := isNum f.2 && (decide (0 ≤ f.1) && decide (f.1 ≤ 3))
def four4 (a b c d : Nat) : Bool := decide (a ≤ 281474976710656) && decide (b ≤ 281474976710656) && decide (c ≤ 281474976710656) && decide (d ≤ 281474976710656)
def apart : List (Int × Int) → Bool
 | [] => true
 | f :: r => r.all (fun g => !(g.2 == f.2)) && apart r
def Vw.ok (v : Vw) : Bool := isNum v.log && decide (v.files.length ≤ 40) && four4 v.floor v.cert v.at_ v.lease && v.files.all isFile && apart v.files
def Ed.may (e : Ed) : Bool := decide (e.drop.length ≤ 40) && decide (e.add.length ≤ 40) && (decide (0 ≤ e.log) && decide (e.log ≤ 1073741824)) && four4 e.floor e.cert e.at_ e.lease && e.drop.all isNum && e.add.all isFile
def dropAll : List Int → List (Int × Int) → Option (List (Int × Int))
 | [], fs => some fs
 | n :: r, fs => if fs.any (fun f => f.2 == n) then dropAll r (fs.eraseP fun f => f.2 == n) else none
def orElse (a b : Nat) : Nat := if a = 0 then b else a
def Vw.app (v : Vw) (e : Ed) : Option Vw := match dropAll e.drop v.files with
 | none => none
 | some fs => if (Vw.ok { log := if e.log = 0 then v.log else e.log, files := fs ++ e.add, floor := orElse e.floor v.floor, cert := orElse e.cert v.cert, at_ := orElse e.at_ v.at_, lease := orElse e.lease v.lease }) then
   some { log := if e.log = 0 then v.log else e.log, files := fs ++ e.add, floor := orElse e.floor v.floor, cert := orElse e.cert v.cert, at_ := orElse e.at_ v.at_, lease := orElse e.lease v.lease } else none
def Vw.run (v : Vw) : List Ed → Option Vw
 | [] => some v
 | e :: r => match v.app e with
  | none => none
  | some w => w.run r
def Vw.none_ : Vw := ⟨0, [], 0, 0, 0, 0⟩
def Vw.whole (v : Vw) : Ed := ⟨[], v.files, v.log, v.floor, v.cert, v.at_, v.lease⟩
def Ed.bytes (e : Ed) : List UInt8 := Pn.list (e.drop.map Int.toNat) ++ (Pn.put e.add.length ++ (e.add.flatMap (fun f => Pn.put f.1.toNat ++ Pn.put f.2.toNat) ++
 (Pn.put e.log.toNat ++ (Pn.put e.floor ++ (Pn.put e.cert ++ (Pn.put e.at_ ++ Pn.put e.lease))))))
def Ed.rec_ (e : Ed) : List UInt8 := Fr.put 6 e.bytes
def Ed.bare (e : Ed) : Prop := e.drop = [] ∧ e.add = []
theorem Vw.run_snoc (v : Vw) (e : Ed) : ∀ es, v.run (es ++ [e]) = (v.run es).bind fun w => w.app e := by
 intro es
 induction es generalizing v with
 | nil =>
  simp only [List.nil_append, Vw.run, Option.bind]
  cases v.app e <;> rfl
 | cons x r ih =>
  simp only [List.cons_append, Vw.run]
  cases v.app x with
  | none => rfl
  | some w => exact ih w
theorem flat_len {α : Type} (f : α → List UInt8) (n : Nat) : ∀ l : List α, (∀ x ∈ l, (f x).length ≤ n) → (l.flatMap f).length ≤ l.length * n
 | [], _ => by simp
 | x :: r, h => by
  have h1 := h x (by simp)
  have h2 := flat_len f n r (fun y hy => h y (by simp [hy]))
  simp only [List.flatMap_cons, List.length_append, List.length_cons, Nat.add_mul]
  omega
theorem Ed.bytes_len (e : Ed) (h : e.may = true) : e.bytes.length ≤ 2000 := by
 simp only [Ed.may, Bool.and_eq_true, decide_eq_true_eq] at h
 have h1 := flat_len Pn.put 10 (e.drop.map Int.toNat) (fun x _ => (Pn.put_len x).2)
 have h2 := flat_len (fun f : Int × Int => Pn.put f.1.toNat ++ Pn.put f.2.toNat) 20 e.add (fun f _ => by
  have := (Pn.put_len f.1.toNat).2
  have := (Pn.put_len f.2.toNat).2
  simp only [List.length_append]
  omega)
 have a1 := (Pn.put_len (e.drop.map Int.toNat).length).2
 have a2 := (Pn.put_len e.add.length).2
 have a3 := (Pn.put_len e.log.toNat).2
 have a4 := (Pn.put_len e.floor).2
 have a5 := (Pn.put_len e.cert).2
 have a6 := (Pn.put_len e.at_).2
 have a7 := (Pn.put_len e.lease).2
 have e1 : (e.drop.map Int.toNat).length = e.drop.length := by simp
 simp only [Ed.bytes, Pn.list, List.length_append]
 rw [e1] at h1
 omega
end
section
open Go.RowKit Go.Shelf
theorem grow_any (n : Nat) (hn : n ≤ 1073741824) (w : World) :
  Calls Tryz.prog 248 #[.slice none 0 0, .int .i64 (n : Int)] w fun e w' => ∃ A c, e = .returned (.slice A 0 c) ∧ w'.ownsRow w.heap.size 5 1 (.slice A 0 c) 0 [] ∧ Below w.heap.size w w' := by
 obtain ⟨i0, hi0, hz0, hz1, hz2⟩ := info_parts info_u8
 rcases Nat.eq_zero_or_pos n with h0 | h0
 ·subst h0
  have h := Any8.slices_Grow_room Tryz.grow121 none 0 0 0 w (Nat.le_refl _) (by omega) (by omega) (by omega)
  refine Calls.mono h ?_
  rintro e w' ⟨rfl, rfl⟩
  exact ⟨none, 0, rfl, World.ownsRow_nil _ _ _ _, Below.refl _ _⟩
 ·have h := Any8.slices_Grow_grow Tryz.grow121 i0 (.int .u8 0) hi0 hz0 (by omega) none 0 0 n [] w (Nat.le_refl _) (by omega) (by rw [hz2]; omega) (by omega) (by simp) (fun _ => rfl) (fun a h => by cases h)
  refine Calls.mono h ?_
  rintro e w' ⟨rfl, rfl⟩
  have hg := grownCap_ge w (0 + n) 0 5
  have hg2 := grownCap_le_maxLen w (0 + n) 0 5 (by unfold maxLen; omega)
  refine ⟨_, _, rfl, ⟨by simp, .inr ⟨w.heap.size, _, _, rfl, Nat.le_refl _, heap_alloc_new w.drew _, Nat.zero_le _, hg2, ?_, by simp⟩⟩, ((Below.refl w.heap.size w).drew).alloc (Nat.le_refl _) _⟩
  change _ = grownCap w (0 + n) 0 5 * 1
  have hc : (Value.int IntKind.u8 0).cells.size = 1 := rfl
  simp only [Array.size_append, Builtin.zeroCells, Array.size_map, Array.size_range, hc]
  change 0 + (0 + n - 0) * 1 + (grownCap w (0 + n) 0 5 - (0 + n)) * 1 = _
  omega
theorem flat_take {ls : List (List UInt8)} {k : Nat} (hl : k < ls.length) : (ls.take (k + 1)).flatten = (ls.take k).flatten ++ ls[k] := by
 have h := (List.take_append_getElem hl).symm
 rw [h, List.flatten_append]
 simp
theorem flat_le {ls : List (List UInt8)} (k : Nat) : (ls.take k).flatten.length ≤ ls.flatten.length := by
 conv => rhs; rw [← List.take_append_drop k ls, List.flatten_append, List.length_append]
 omega
theorem concat_any (P : Option Addr) (n c : Nat) (ls : List (List UInt8)) (w : World) (hn : n ≤ 1073741824) (hbig : ls.flatten.length ≤ 1073741824) (hr : Rows2 w.heap.size w P n ls) :
  Calls Tryz.prog 211 #[.slice P n c] w fun e w' => ∃ A' c', e = .returned (.slice A' ls.flatten.length c') ∧
   w'.ownsRow w.heap.size 5 1 (.slice A' ls.flatten.length c') ls.flatten.length (bts ls.flatten) ∧ ls.flatten.length ≤ c' ∧ c' ≤ maxLen ∧ Below w.heap.size w w' := by
 obtain ⟨i0, hi0, hz0, hz1, hz2⟩ := info_parts info_u8
 have hlen : ls.length = n := by obtain ⟨_, _, h, _⟩ := hr; exact h
 obtain ⟨F, hF⟩ : ∃ F, F = ls.flatten.length := ⟨_, rfl⟩
 have HF := Lib.hid hF
 have HB := Lib.hid hbig
 rw [← hF] at hbig ⊢
 clear hF
 go_enter Tryz.func211, Tryz.ntmps211
 go_wp2
 go_loop [3, 11] (fun x i => ∃ k : Nat, k ≤ n ∧ i = .int .i64 (k : Int) ∧ x = .int .i64 (((ls.take k).flatten.length : Nat) : Int)) (fun _ i => n - (intOf i).toNat)
 case atStart => exact ⟨0, Nat.zero_le _, rfl, rfl⟩
 case round =>
  obtain ⟨k, hk, rfl, rfl⟩ := hrel
  by_cases hlt : k < n
  ·obtain ⟨a, A, k', c', hl, rfl, _, hc, hkc, hcm, hr2⟩ := hr.at_ hlt
   have ht := flat_take hl
   have hb1 := flat_le (ls := ls) (k + 1)
   have e1 : (ls.take (k + 1)).flatten.length = (ls.take k).flatten.length + k' := by rw [ht, List.length_append, hr2.btlen]
   have hb2 : (ls.take k).flatten.length + k' ≤ 1073741824 := by
    have h : ls.flatten.length ≤ 1073741824 := HB
    omega
   have E1 := Lib.hid e1
   clear ht hb1 e1
   generalize (ls.take k).flatten.length = L at *
   have hge : ((L : Int) + (k' : Int) < 0) = False := by simp; omega
   go_wp2
   go_round
   case rel => exact ⟨k + 1, by omega, by go_num, by have e1 : (ls.take (k + 1)).flatten.length = L + k' := E1; rw [e1]; go_num⟩
   case measure => simp [intOf]; omega
  ·obtain rfl : k = n := by omega
   have e1 : (ls.take k).flatten.length = F := by
    have h : F = ls.flatten.length := HF
    rw [List.take_of_length_le (by omega), h]
   rw [e1]
   clear e1
   go_wp2_with fail
   refine (grow_any F hbig w).mono ?_
   rintro e w1 ⟨A1, c1, rfl, ho1, hb1⟩
   go_wp2
   go_loopw [6, 27] (fun o i wr => ∃ (j : Nat) (A' : Option Addr) (M c' : Nat), j ≤ k ∧ o = .slice A' M c' ∧ i = .int .i64 (j : Int) ∧ wr.ownsRow w.heap.size 5 1 (.slice A' M c') M (bts (ls.take j).flatten) ∧ Below w.heap.size w wr) (fun _ i _ => k - (intOf i).toNat)
   case atStart => exact ⟨0, A1, 0, c1, Nat.zero_le _, rfl, rfl, by simpa [bts] using ho1, hb1⟩
   case round =>
    obtain ⟨j, A', M, c', hj, rfl, rfl, hown, hb⟩ := hrel
    have hML : M = (ls.take j).flatten.length := by
     have h1 := hown.1
     rw [bts_length] at h1
     omega
    by_cases hjk : j < k
    ·obtain ⟨a, A, k', c2, hl, rfl, hab, hc, hkc, hcm, hr2⟩ := (hr.below hb).at_ hjk
     have ht := flat_take hl
     have hb1 := flat_le (ls := ls) (j + 1)
     have hb2 : M + k' ≤ 1073741824 := by
      have h : ls.flatten.length ≤ 1073741824 := HB
      have e1 : (ls.take (j + 1)).flatten.length = (ls.take j).flatten.length + k' := by rw [ht, List.length_append, hr2.btlen]
      omega
     have hnew : bts (ls.take j).flatten ++ bts ls[j] = bts (ls.take (j + 1)).flatten := by rw [ht, bts_append]
     have h1c := bts_one ls[j]
     generalize bts ls[j] = X at *
     generalize hY : bts (ls.take (j + 1)).flatten = Y at *
     generalize bts (ls.take j).flatten = Z at *
     have HN := Lib.hid hnew
     have HY := Lib.hid hY
     clear hY hML ht hb1 hnew
     go_wp2_with (at_builtin; refine stop_in ?_)
     refine stop_out (wpList_app rfl (.tmp 31) (.tmp 32) _ rfl w.heap.size 5 i0 _ 1 1 Tryz.underlying121 hi0 hz0 hz1 hz2 rfl (by omega) w hb hb.size _ M Z rfl hown w.heap.size A k' c2 X rfl hr2 h1c (M + k') Y rfl HN (by unfold maxLen; omega) (by omega) ?_)
     intro A3 c3 w3 hown3 hb3 _ hc3 hm3
     go_wp2
     go_roundw
     case rel => exact ⟨j + 1, A3, M + k', c3, by omega, rfl, by go_num, by have hY : bts (ls.take (j + 1)).flatten = Y := HY; rw [hY]; exact hown3, hb3⟩
     case measure => simp [intOf]; omega
    ·obtain rfl : j = k := by omega
     have e1 : ls.take j = ls := List.take_of_length_le (by omega)
     rw [e1] at hown hML
     have h : F = ls.flatten.length := HF
     have hMF : M = F := by omega
     subst hMF
     obtain ⟨A4, c4, e4, h5, h6, _⟩ := own_form hown
     injection e4 with e5 e6 e7
     subst e5
     subst e7
     clear hML h e1
     go_wp2
     go_ret
     exact ⟨A', c', rfl, hown, h5, h6, hb⟩
theorem rows3 (w : World) (e : TypeId) (A1 A2 A3 : Option Addr) (n1 n2 n3 c1 c2 c3 : Nat) (l1 l2 l3 : List UInt8) (h1 : Row w.heap.size w A1 n1 1 (bts l1)) (h2 : Row w.heap.size w A2 n2 1 (bts l2)) (h3 : Row w.heap.size w A3 n3 1 (bts l3))
  (k1 : n1 ≤ c1) (k2 : n2 ≤ c2) (k3 : n3 ≤ c3) (m1 : c1 ≤ maxLen) (m2 : c2 ≤ maxLen) (m3 : c3 ≤ maxLen) :
  Rows2 (w.alloc (.cells #[.slice A1 n1 c1, .slice A2 n2 c2, .slice A3 n3 c3] e)).heap.size (w.alloc (.cells #[.slice A1 n1 c1, .slice A2 n2 c2, .slice A3 n3 c3] e)) (some ⟨w.heap.size, 0, none⟩) 3 [l1, l2, l3] := by
 refine ⟨_, (Row.new w #[.slice A1 n1 c1, .slice A2 n2 c2, .slice A3 n3 c3] e (n := 3) (size := 1) rfl).up (by simp), rfl, fun i hi => ?_⟩
 rcases i with _ | _ | _ | i
 ·exact ⟨A1, n1, c1, rfl, k1, m1, (h1.alloc (Nat.le_refl _) _).up (by simp)⟩
 ·exact ⟨A2, n2, c2, rfl, k2, m2, (h2.alloc (Nat.le_refl _) _).up (by simp)⟩
 ·exact ⟨A3, n3, c3, rfl, k3, m3, (h3.alloc (Nat.le_refl _) _).up (by simp)⟩
 ·simp at hi
  omega
theorem head_row (w : World) (e : TypeId) (k n : Nat) (hk : k < 256) (hn : n ≤ 60000) : Row (w.alloc (.cells #[.int .u8 (k : Int), .int .u8 ((n : Int) / 65536), .int .u8 ((n : Int) / 256), .int .u8 ((n : Int) % 256)] e)).heap.size
  (w.alloc (.cells #[.int .u8 (k : Int), .int .u8 ((n : Int) / 65536), .int .u8 ((n : Int) / 256), .int .u8 ((n : Int) % 256)] e)) (some ⟨w.heap.size, 0, none⟩) 4 1 (bts (Fr.head k n)) := by
 have h := (Row.new w #[.int .u8 (k : Int), .int .u8 ((n : Int) / 65536), .int .u8 ((n : Int) / 256), .int .u8 ((n : Int) % 256)] e (n := 4) (size := 1) rfl).up (B' := (w.alloc (.cells #[.int .u8 (k : Int), .int .u8 ((n : Int) / 65536), .int .u8 ((n : Int) / 256), .int .u8 ((n : Int) % 256)] e)).heap.size) (by simp)
 have e1 : bts (Fr.head k n) = [.int .u8 (k : Int), .int .u8 ((n : Int) / 65536), .int .u8 ((n : Int) / 256), .int .u8 ((n : Int) % 256)] := by
  simp only [bts, Fr.head, List.map_cons, List.map_nil, UInt8.toNat_ofNat', Nat.reducePow]
  rw [show ((k % 256 : Nat) : Int) = (k : Int) from by omega, show ((n / 65536 % 256 : Nat) : Int) = (n : Int) / 65536 from by omega, show ((n / 256 % 256 : Nat) : Int) = (n : Int) / 256 from by omega, show ((n % 256 : Nat) : Int) = (n : Int) % 256 from by omega]
 rw [e1]
 exact h
theorem fput_any (A : Option Addr) (N c : Nat) (l : List UInt8) (k : Nat) (B : Option Addr) (M d : Nat) (m : List UInt8) (w : World) (hN : N ≤ 500000000) (hNc : N ≤ c) (hc : c ≤ maxLen) (hr : Row w.heap.size w A N 1 (bts l))
  (h1 : 1 ≤ k) (h2 : k ≤ 100) (hM : M ≤ 60000) (hMd : M ≤ d) (hd : d ≤ maxLen) (hq : Row w.heap.size w B M 1 (bts m)) :
  Calls Tryz.prog 156 #[.slice A N c, .int .i64 (k : Int), .slice B M d] w fun e w' => ∃ A' K c', e = .returned (.tuple #[.slice A' K c', .int .i64 0]) ∧
   w'.ownsRow w.heap.size 5 1 (.slice A' K c') K (bts (l ++ Fr.put k m)) ∧ K ≤ c' ∧ c' ≤ maxLen ∧ Below w.heap.size w w' := by
 have a1 : ((k : Int) < 1) = False := by simp; omega
 have a2 : ((100 : Int) < (k : Int)) = False := by simp; omega
 have a3 : ((60000 : Int) < (M : Int)) = False := by simp; omega
 go_enter Tryz.func156, Tryz.ntmps156
 go_wp2_with fail
 refine (seal_any _ 4 4 (Fr.head k M) _ (Nat.le_refl _) (by decide) (by omega) (head_row w _ k M (by omega) hM)).mono ?_
 rintro e w1 ⟨A1, c1, rfl, ho1, hc1, hm1, hb1⟩
 have hb1' := later_ ((Below.refl w.heap.size w).alloc (Nat.le_refl _) _) hb1
 have ho1' := Row.own ho1
 clear ho1 hb1
 have hr1 := (hr.below hb1').up hb1'.size
 have hq1 := (hq.below hb1').up hb1'.size
 go_wp2_with fail
 refine (seal_any B M d m w1 hMd hd (by omega) hq1).mono ?_
 rintro e w2 ⟨A2, c2, rfl, ho2, hc2, hm2, hb2⟩
 have hb2' := later_ hb1' hb2
 have ho2' := Row.own ho2
 have hr2 := (hr1.below hb2).up hb2.size
 have ho12 := (ho1'.below hb2).up hb2.size
 have hb1 := hb1'
 clear ho2 hb2 hb1'
 have hfl : [l, Crc.sealed (Fr.head k M), Crc.sealed m].flatten = l ++ Fr.put k m := by simp [Fr.put, hq.btlen]
 have hl1 := hr.btlen
 have hl2 : (l ++ Fr.put k m).length ≤ 1073741824 := by
  rw [List.length_append, Fr.put_length, hq.btlen]
  omega
 have HL := Lib.hid hl2
 have HF := Lib.hid hfl
 have hrows := rows3 w2 121 A A1 A2 N (4 + 4) (M + 4) c c1 c2 l _ _ hr2 ho12 ho2' hNc hc1 hc2 hc hm1 hm2
 clear hl2 hfl
 go_wp2_with fail
 refine (concat_any _ 3 3 _ _ (by omega) (by have h : [l, Crc.sealed (Fr.head k M), Crc.sealed m].flatten = l ++ Fr.put k m := HF; rw [h]; exact HL) hrows).mono ?_
 rintro e w3 ⟨A3, c3, rfl, ho3, hc3, hm3, hb3⟩
 have hfl : [l, Crc.sealed (Fr.head k M), Crc.sealed m].flatten = l ++ Fr.put k m := HF
 rw [hfl] at ho3 hc3 ⊢
 have hb := later_ (hb2'.alloc hb2'.size _) hb3
 have ho := own_base ho3 (Nat.le_trans hb2'.size (by simp) : w.heap.size ≤ (w2.alloc _).heap.size)
 generalize (l ++ Fr.put k m).length = K at *
 clear ho3 hb3 hfl
 go_wp2
 go_ret2
 exact ⟨A3, K, c3, rfl, ho, hc3, hm3, hb⟩
end
section
open Go.RowKit
theorem conv_b {B n : Nat} {w : World} {A : Option Addr} {l : List UInt8} (h : Row B w A n 1 (bts l)) (c : Nat) : (convert 121 9 (.slice A n c)).run Tryz.prog w = .ok (.string ⟨l.toArray⟩) w :=
 conv_row _ _ 5 Tryz.underlying121 Tryz.underlying5 Tryz.underlying9 h c
theorem open_bad (A : Option Addr) (n c : Nat) (l : List UInt8) (w : World) (hn : n ≤ c) (hm : c ≤ maxLen) (h4 : 4 ≤ n) (hbig : n ≤ 1073741824) (hr : Row w.heap.size w A n 1 (bts l)) (hne : (Crc.sealed (l.take (n - 4)) == l) = false) :
  Calls Tryz.prog 189 #[.slice A n c] w fun e w' => e = .returned (.tuple #[.slice none 0 0, .int .i64 5]) ∧ Below w.heap.size w w' := by
 have hm' : c ≤ 9223372036854775807 := hm
 have hcut : Row w.heap.size w A (n - 4) 1 (bts (l.take (n - 4))) := by
  have := hr.pre (m := n - 4) (by omega)
  rwa [Nat.mul_one, ← bts_take] at this
 have hcv := conv_b hr.drew c
 go_enter Tryz.func189, Tryz.ntmps189
 go_upto_region 4 with (fail)
 go_cut [11] (fun s wx => s = .bool true ∧ Below w.heap.size w wx)
 case first =>
  go_region_with (go_at_call 210; refine (seal_any A (n - 4) c (l.take (n - 4)) _ (by omega) hm (by omega) hcut.drew).mono ?_; rintro e w1 ⟨A1, c1, rfl, ho1, _, _, hb1⟩; rw [Nat.sub_add_cancel h4] at ho1; have hcv1 := conv_b (Row.own ho1) c1; have hcv2 := conv_b (hr.drew.below hb1) c)
  all_goals (go_wp2_with fail; go_meet; exact ⟨rfl, (Below.refl _ _).drew.trans hb1⟩)
 case rest =>
  obtain ⟨rfl, hb⟩ := hcut
  go_wp2
  go_ret2
  exact ⟨rfl, hb⟩
theorem open_good (A : Option Addr) (n c : Nat) (l : List UInt8) (w : World) (hn : n ≤ c) (hm : c ≤ maxLen) (h4 : 4 ≤ n) (hbig : n ≤ 1073741824) (hr : Row w.heap.size w A n 1 (bts l)) (hne : (Crc.sealed (l.take (n - 4)) == l) = true) :
  Calls Tryz.prog 189 #[.slice A n c] w fun e w' => ∃ A' c', e = .returned (.tuple #[.slice A' (n - 4) c', .int .i64 0]) ∧ w'.ownsRow w.heap.size 5 1 (.slice A' (n - 4) c') (n - 4) (bts (l.take (n - 4))) ∧ n - 4 ≤ c' ∧ c' ≤ maxLen ∧ Below w.heap.size w w' := by
 obtain ⟨i0, hi0, hz0, hz1, hz2⟩ := info_parts info_u8
 have hm' : c ≤ 9223372036854775807 := hm
 have hpre : Row w.heap.size w A (n - 4) 1 (bts (l.take (n - 4))) := by
  have := hr.pre (m := n - 4) (by omega)
  rwa [Nat.mul_one, ← bts_take] at this
 have hcv := conv_b hr.drew c
 have hne' : (!(Crc.sealed (l.take (n - 4)) == l)) = false := by rw [hne]; rfl
 go_enter Tryz.func189, Tryz.ntmps189
 go_upto_region 4 with (fail)
 go_cut [11] (fun s wx => s = .bool false ∧ Below w.heap.size w wx)
 case first =>
  go_region_with (go_at_call 210; refine (seal_any A (n - 4) c (l.take (n - 4)) _ (by omega) hm (by omega) hpre.drew).mono ?_; rintro e w1 ⟨A1, c1, rfl, ho1, _, _, hb1⟩; rw [Nat.sub_add_cancel h4] at ho1; have hcv1 := conv_b (Row.own ho1) c1; have hcv2 := conv_b (hr.drew.below hb1) c)
  all_goals (go_wp2_with fail; go_meet; exact ⟨rfl, (Below.refl _ _).drew.trans hb1⟩)
 case rest =>
  obtain ⟨rfl, hb⟩ := hcut
  clear hne hne' hcv
  go_wp2_with (at_builtin; refine stop_in ?_)
  refine stop_out (wpList_app0 rfl (.const (.slice none 0 0)) (.tmp 22) _ rfl w.heap.size 5 i0 _ 1 1 Tryz.underlying121 hi0 hz0 hz1 hz2 rfl (by omega) w hb hb.size rfl w.heap.size A (n - 4) c (bts (l.take (n - 4))) rfl (hpre.below hb) (bts_one _) (by unfold maxLen; omega) (by omega) ?_)
  intro A2 c2 w2 hown2 hb2 _ hc2 hm2
  go_wp2
  go_ret2
  exact ⟨A2, c2, rfl, hown2, hc2, hm2, hb2⟩
end
section
open Go.RowKit
theorem u_take (l : List UInt8) (k : Nat) (hk : k < (l.take 4).length) : Fr.u l k = ((l.take 4)[k]).toNat := by
 have h : k < l.length := by rw [List.length_take] at hk; omega
 simp [Fr.u, h]
theorem head4 {w : World} {B g : Nat} {l : List UInt8} (h : Row B w (some ⟨g, 0, none⟩) 4 1 (bts (l.take 4))) : ∃ x0 x1 x2 x3 : UInt8, w.cell? ⟨g, 0, none⟩ = some (.int .u8 (x0.toNat : Int)) ∧ w.cell? ⟨g, 1, none⟩ = some (.int .u8 (x1.toNat : Int)) ∧
  w.cell? ⟨g, 2, none⟩ = some (.int .u8 (x2.toNat : Int)) ∧ w.cell? ⟨g, 3, none⟩ = some (.int .u8 (x3.toNat : Int)) ∧ Fr.u l 0 = x0.toNat ∧ Fr.size l = x1.toNat * 65536 + x2.toNat * 256 + x3.toNat := by
 obtain ⟨a0, h0, e0, _, c0⟩ := h.bt (k := 0) (by omega)
 obtain ⟨a1, h1, e1, _, c1⟩ := h.bt (k := 1) (by omega)
 obtain ⟨a2, h2, e2, _, c2⟩ := h.bt (k := 2) (by omega)
 obtain ⟨a3, h3, e3, _, c3⟩ := h.bt (k := 3) (by omega)
 injection e0 with e0; injection e1 with e1; injection e2 with e2; injection e3 with e3
 subst e0; subst e1; subst e2; subst e3
 exact ⟨_, _, _, _, c0, c1, c2, c3, u_take l 0 h0, by rw [Fr.size, u_take l 1 h1, u_take l 2 h2, u_take l 3 h3]⟩
theorem or_i64 (m x k : Nat) (hx : x < 2 ^ k) (h : m * 2 ^ k + x < 9223372036854775808) : bits .or .i64 ((m * 2 ^ k : Nat) : Int) (x : Int) = ((m * 2 ^ k + x : Nat) : Int) := by
 have e : BitVec.ofInt 64 ((m * 2 ^ k : Nat) : Int) ||| BitVec.ofInt 64 (x : Int) = BitVec.ofNat 64 (m * 2 ^ k + x) := by
  rw [BitVec.ofInt_natCast, BitVec.ofInt_natCast]
  apply BitVec.eq_of_toNat_eq
  rw [BitVec.toNat_or, BitVec.toNat_ofNat, BitVec.toNat_ofNat, BitVec.toNat_ofNat, Nat.mod_eq_of_lt (by omega), Nat.mod_eq_of_lt (by omega), Nat.mod_eq_of_lt (by omega), Nat.mul_comm m, Nat.two_pow_add_eq_or_of_lt hx]
 change IntKind.i64.wrap (((BitVec.ofInt 64 ((m * 2 ^ k : Nat) : Int) ||| BitVec.ofInt 64 (x : Int)).toNat : Nat) : Int) = _
 rw [e, BitVec.toNat_ofNat, Nat.mod_eq_of_lt (by omega), IntKind.wrap_i64]
 omega
theorem or_size (a b c : UInt8) : bits .or .i64 (bits .or .i64 ((a.toNat : Int) * 65536) ((b.toNat : Int) * 256)) (c.toNat : Int) = ((a.toNat * 65536 + b.toNat * 256 + c.toNat : Nat) : Int) := by
 have ha : a.toNat < 256 := a.toNat_lt
 have hb : b.toNat < 256 := b.toNat_lt
 have hc : c.toNat < 256 := c.toNat_lt
 have h1 := or_i64 a.toNat (b.toNat * 256) 16 (by omega) (by omega)
 have h2 := or_i64 (a.toNat * 256 + b.toNat) c.toNat 8 (by omega) (by omega)
 rw [show ((a.toNat : Int) * 65536) = ((a.toNat * 2 ^ 16 : Nat) : Int) from by omega, show ((b.toNat : Int) * 256) = ((b.toNat * 256 : Nat) : Int) from by omega, h1,
  show a.toNat * 2 ^ 16 + b.toNat * 256 = (a.toNat * 256 + b.toNat) * 2 ^ 8 from by omega, h2]
theorem ftake_any (A : Option Addr) (N c : Nat) (l : List UInt8) (p : Nat) (w : World) (hN : N ≤ 1073741824) (hNc : N ≤ c) (hc : c ≤ maxLen) (hr : Row w.heap.size w A N 1 (bts l)) (hp : p ≤ N) :
  Calls Tryz.prog 130 #[.slice A N c, .int .i64 (p : Int)] w fun e w' => ∃ A' M c', e = .returned (.tuple #[.int .i64 ((Fr.take l p).1 : Int), .slice A' M c', .int .i64 ((Fr.take l p).2.2.1 : Int), .int .i64 ((Fr.take l p).2.2.2 : Int)]) ∧
   w'.ownsRow w.heap.size 5 1 (.slice A' M c') M (bts (Fr.take l p).2.1) ∧ M ≤ c' ∧ c' ≤ maxLen ∧ Below w.heap.size w w' := by
 have hln := hr.btlen
 have a1 : ((p : Int) < 0) = False := by simp
 have a2 : ((N : Int) < (p : Int)) = False := by simp; omega
 obtain ⟨res, hres0⟩ : ∃ r, Fr.take l p = r := ⟨_, rfl⟩
 rw [hres0]
 have HRES := Lib.hid hres0
 clear hres0
 obtain ⟨A1, hA1⟩ : ∃ A1, (if c = p then A else Option.map (fun x => x.add p) A) = A1 := ⟨_, rfl⟩
 have hrest : Row w.heap.size w A1 (N - p) 1 (bts (l.drop p)) := by
  have h := hr.cut (A' := A1) hp (Nat.le_refl N) (fun hlt => by rw [← hA1, if_neg (by omega), Nat.mul_one])
  rw [Nat.mul_one, Nat.mul_one, ← bts_drop, ← bts_take] at h
  rwa [List.take_of_length_le (by rw [List.length_drop]; omega)] at h
 by_cases h8 : N - p < 8
 ·obtain rfl : res = (0, [], 0, 4) := by
   have hr0 : Fr.take l p = res := HRES
   rw [← hr0]
   unfold Fr.take
   rw [if_pos (by omega)]
  clear hrest
  go_enter Tryz.func130, Tryz.ntmps130
  go_wp2
  exact bodyPost_ret (v := .tuple #[.int .i64 0, .slice none 0 0, .int .i64 0, .int .i64 4]) (by simp [results, go_sem]) rfl ⟨none, 0, 0, rfl, World.ownsRow_nil _ _ _ _, Nat.le_refl _, Nat.zero_le _, Below.refl _ _⟩
 ·obtain ⟨a, rfl, hab⟩ := hr.some_ (by rw [bts_length]; omega)
  have hA2 : some (a.add p) = A1 := by rw [← hA1, if_neg (by omega)]; rfl
  subst hA2
  clear hA1
  have hhead : Row w.heap.size w (some (a.add p)) 8 1 (bts ((l.drop p).take 8)) := by
   have h := hrest.pre (m := 8) (by omega)
   rwa [Nat.mul_one, ← bts_take] at h
  have h44 : ((l.drop p).take 8).take 4 = (l.drop p).take 4 := by rw [List.take_take]; rfl
  have hd8 : ((N - p : Nat) : Int) < 8 ↔ False := by simp; omega
  by_cases hs1 : Crc.sealed ((l.drop p).take 4) = (l.drop p).take 8
  ·have hop := open_good (some (a.add p)) 8 (c - p) ((l.drop p).take 8) w (by omega) (by omega) (by omega) (by omega) hhead (by rw [show 8 - 4 = 4 from rfl, h44]; simpa using hs1)
   rw [show 8 - 4 = 4 from rfl, h44] at hop
   go_enter Tryz.func130, Tryz.ntmps130
   go_wp2_with fail
   refine hop.mono ?_
   rintro e w1 ⟨A2, c2, rfl, ho1, hc1, hm1, hb1⟩
   have hrest1 := (hrest.below hb1).up hb1.size
   have hhd := Row.own ho1
   clear hop
   obtain ⟨g, rfl⟩ : ∃ g, A2 = some ⟨g, 0, none⟩ := by
    rcases ho1.2 with ⟨_, h0⟩ | ⟨g, _, _, hv, _⟩
    ·cases h0
    ·injection hv with hv _ _
     exact ⟨g, hv⟩
   obtain ⟨x0, x1, x2, x3, d0, d1, d2, d3, hu, hsz⟩ := head4 hhd
   have HU := Lib.hid hu
   have HSZ := Lib.hid hsz
   have hx0 : x0.toNat < 256 := x0.toNat_lt
   have hx1 : x1.toNat < 256 := x1.toNat_lt
   have hx2 : x2.toNat < 256 := x2.toNat_lt
   have hx3 : x3.toNat < 256 := x3.toNat_lt
   clear hu hsz
   have hor := or_size x1 x2 x3
   have hz : x1.toNat * 65536 + x2.toNat * 256 + x3.toNat < 16777216 := by omega
   generalize x1.toNat * 65536 + x2.toNat * 256 + x3.toNat = z at *
   obtain ⟨q, hq⟩ : ∃ q, a.add p = q := ⟨_, rfl⟩
   rw [hq] at hrest hhead hrest1
   have hx0i : ((x0.toNat : Nat) : Int) = (x0.toNat : Int) := rfl
   generalize x0.toNat = k at *
   by_cases hf : k < 1 ∨ 100 < k ∨ 60000 < z
   ·obtain rfl : res = (0, [], 0, 3) := by
     have hr0 : Fr.take l p = res := HRES
     rw [← hr0]
     have hu : Fr.u (l.drop p) 0 = k := HU
     have hsz : Fr.size (l.drop p) = z := HSZ
     unfold Fr.take
     rw [if_neg (by omega), if_neg (fun h => h hs1), hu, hsz, if_pos hf]
    by_cases f1 : k < 1
    ·have f1' : ((k : Int) < 1) := by omega
     go_wp2_with fail
     go_quiet (fail)
     go_wp2
     all_goals exact bodyPost_ret (v := .tuple #[.int .i64 0, .slice none 0 0, .int .i64 0, .int .i64 3]) (by simp [results, go_sem]) rfl ⟨none, 0, 0, rfl, World.ownsRow_nil _ _ _ _, Nat.le_refl _, Nat.zero_le _, below_drewN hb1 _⟩
    ·have f1' : ((k : Int) < 1) = False := by simp; omega
     by_cases f2 : 100 < k
     ·have f2' : ((100 : Int) < (k : Int)) := by omega
      go_wp2_with fail
      go_quiet (fail)
      go_wp2
      all_goals exact bodyPost_ret (v := .tuple #[.int .i64 0, .slice none 0 0, .int .i64 0, .int .i64 3]) (by simp [results, go_sem]) rfl ⟨none, 0, 0, rfl, World.ownsRow_nil _ _ _ _, Nat.le_refl _, Nat.zero_le _, below_drewN hb1 _⟩
     ·have f2' : ((100 : Int) < (k : Int)) = False := by simp; omega
      have f3' : ((60000 : Int) < (z : Int)) := by omega
      go_wp2_with fail
      go_quiet (fail)
      go_wp2
      all_goals exact bodyPost_ret (v := .tuple #[.int .i64 0, .slice none 0 0, .int .i64 0, .int .i64 3]) (by simp [results, go_sem]) rfl ⟨none, 0, 0, rfl, World.ownsRow_nil _ _ _ _, Nat.le_refl _, Nat.zero_le _, below_drewN hb1 _⟩
   ·have f1' : ((k : Int) < 1) = False := by simp; omega
    have f2' : ((100 : Int) < (k : Int)) = False := by simp; omega
    have f3' : ((60000 : Int) < (z : Int)) = False := by simp; omega
    by_cases ht : N - p - 8 < z + 4
    ·obtain rfl : res = (0, [], 0, 4) := by
      have hr0 : Fr.take l p = res := HRES
      rw [← hr0]
      have hu : Fr.u (l.drop p) 0 = k := HU
      have hsz : Fr.size (l.drop p) = z := HSZ
      unfold Fr.take
      rw [if_neg (by omega), if_neg (fun h => h hs1), hu, hsz, if_neg hf, if_pos (by omega)]
     have f4' : (((N - p - 8 : Nat) : Int) < (z : Int) + 4) := by omega
     go_wp2_with fail
     go_quiet (fail)
     go_wp2
     all_goals exact bodyPost_ret (v := .tuple #[.int .i64 0, .slice none 0 0, .int .i64 0, .int .i64 4]) (by simp [results, go_sem]) rfl ⟨none, 0, 0, rfl, World.ownsRow_nil _ _ _ _, Nat.le_refl _, Nat.zero_le _, below_drewN hb1 _⟩
    ·have f4' : (((N - p - 8 : Nat) : Int) < (z : Int) + 4) = False := by simp; omega
     have hrest2 : Row w1.heap.size w1 (some (q.add 8)) (N - p - 8) 1 (bts (l.drop (p + 8))) := by
      have h := hrest1.cut (A' := some (q.add 8)) (k := 8) (m := N - p) (by omega) (Nat.le_refl _) (fun _ => rfl)
      rw [Nat.mul_one, Nat.mul_one, ← bts_drop, ← bts_take, List.drop_drop] at h
      rwa [List.take_of_length_le (by rw [List.length_drop]; omega)] at h
     have hbody : Row w1.heap.size w1 (some (q.add 8)) (z + 4) 1 (bts ((l.drop (p + 8)).take (z + 4))) := by
      have h := hrest2.pre (m := z + 4) (by omega)
      rwa [Nat.mul_one, ← bts_take] at h
     have e8 : q.add 8 = ⟨q.block, q.off + 8, none⟩ := rfl
     rw [e8] at hbody
     have h44b : ((l.drop (p + 8)).take (z + 4)).take z = (l.drop (p + 8)).take z := by rw [List.take_take, Nat.min_eq_left (by omega)]
     by_cases hs2 : Crc.sealed ((l.drop (p + 8)).take z) = (l.drop (p + 8)).take (z + 4)
     ·obtain rfl : res = (k, (l.drop (p + 8)).take z, p + 8 + z + 4, 0) := by
       have hr0 : Fr.take l p = res := HRES
       rw [← hr0]
       have hu : Fr.u (l.drop p) 0 = k := HU
       have hsz : Fr.size (l.drop p) = z := HSZ
       unfold Fr.take
       rw [if_neg (by omega), if_neg (fun h => h hs1), hu, hsz, if_neg hf, if_neg (by omega), if_neg (fun h => h hs2)]
      have hop2 := fun nq => open_good (some ⟨q.block, q.off + 8, none⟩) (z + 4) (c - p - 8) ((l.drop (p + 8)).take (z + 4)) (w1.drewN nq) (by omega) (by omega) (by omega) (by omega) (hbody.drewN nq) (by rw [Nat.add_sub_cancel, h44b]; simpa using hs2)
      rw [Nat.add_sub_cancel, h44b] at hop2
      clear hs1 hs2 h44 h44b
      go_wp2_with fail
      go_quiet (fail)
      go_wp2_with fail
      refine (hop2 _).mono ?_
      rintro e w2 ⟨A4, c4, rfl, ho4, hc4, hm4, hb4⟩
      have hb := later_ (below_drewN hb1 nq) hb4
      have ho := own_base ho4 (hb1.size : w.heap.size ≤ (w1.drewN nq).heap.size)
      clear hop2 hb4 ho4 hbody hrest2 hrest1 hhd
      go_wp2
      refine bodyPost_ret (v := .tuple #[.int .i64 (k : Int), .slice A4 z c4, .int .i64 ((p : Int) + 4 + 4 + (z : Int) + 4), .int .i64 0]) (by simp [results, go_sem]) rfl ⟨A4, z, c4, ?_, ho, hc4, hm4, hb⟩
      have e5 : (p : Int) + 4 + 4 + (z : Int) + 4 = ((p + 8 + z + 4 : Nat) : Int) := by omega
      rw [e5]
      rfl
     ·obtain rfl : res = (0, [], 0, 5) := by
       have hr0 : Fr.take l p = res := HRES
       rw [← hr0]
       have hu : Fr.u (l.drop p) 0 = k := HU
       have hsz : Fr.size (l.drop p) = z := HSZ
       unfold Fr.take
       rw [if_neg (by omega), if_neg (fun h => h hs1), hu, hsz, if_neg hf, if_neg (by omega), if_pos hs2]
      have hop2 := fun nq => open_bad (some ⟨q.block, q.off + 8, none⟩) (z + 4) (c - p - 8) ((l.drop (p + 8)).take (z + 4)) (w1.drewN nq) (by omega) (by omega) (by omega) (by omega) (hbody.drewN nq) (by rw [Nat.add_sub_cancel, h44b]; simpa using hs2)
      clear hs1 hs2 h44 h44b
      go_wp2_with fail
      go_quiet (fail)
      go_wp2_with fail
      refine (hop2 _).mono ?_
      rintro e w2 ⟨rfl, hb4⟩
      have hb := later_ (below_drewN hb1 nq) hb4
      clear hop2 hb4 hbody hrest2 hrest1 hhd
      go_wp2
      exact bodyPost_ret (v := .tuple #[.int .i64 0, .slice none 0 0, .int .i64 0, .int .i64 5]) (by simp [results, go_sem]) rfl ⟨none, 0, 0, rfl, World.ownsRow_nil _ _ _ _, Nat.le_refl _, Nat.zero_le _, hb⟩
  ·have hop := open_bad (some (a.add p)) 8 (c - p) ((l.drop p).take 8) w (by omega) (by omega) (by omega) (by omega) hhead (by rw [show 8 - 4 = 4 from rfl, h44]; simpa using hs1)
   obtain rfl : res = (0, [], 0, 5) := by
    have hr0 : Fr.take l p = res := HRES
    rw [← hr0]
    unfold Fr.take
    rw [if_neg (by omega), if_pos hs1]
   go_enter Tryz.func130, Tryz.ntmps130
   go_wp2_with fail
   refine hop.mono ?_
   rintro e w1 ⟨rfl, hb1⟩
   clear hop
   go_wp2
   exact bodyPost_ret (v := .tuple #[.int .i64 0, .slice none 0 0, .int .i64 0, .int .i64 5]) (by simp [results, go_sem]) rfl ⟨none, 0, 0, rfl, World.ownsRow_nil _ _ _ _, Nat.le_refl _, Nat.zero_le _, hb1⟩
end
section
open Go.RowKit
def i64v (ks : List Nat) : List Value := ks.map fun k : Nat => .int .i64 (k : Int)
theorem i64v_snoc (ks : List Nat) (k : Nat) : i64v ks ++ [.int .i64 (k : Int)] = i64v (ks ++ [k]) := by simp [i64v]
theorem info_int : (Tryz.prog.info? 3).map (fun i => (i.zero, i.size, i.bytes)) = some (some (.int .i64 0), 1, 8) := by kernel_rfl
structure Bods (base : Nat) (w : World) (kv bv : Value) (ks : List Nat) (bs : List (List UInt8)) : Prop where
 kinds : w.ownsRow base 3 1 kv ks.length (i64v ks)
 row : ∃ vs, w.ownsRow base 121 1 bv bs.length vs ∧ ∀ i (h : i < bs.length), ∃ A k c, vs[i]? = some (.slice A k c) ∧ k ≤ c ∧ c ≤ maxLen ∧ Row w.heap.size w A k 1 (bts bs[i]) ∧ ∀ a, A = some a → a.block < w.heap.size ∧ some a.block ≠ kv.ownBlock ∧ some a.block ≠ bv.ownBlock ∧ base ≤ a.block
 sep : ∀ g, kv.ownBlock = some g → bv.ownBlock ≠ some g
variable {base : Nat} {w w' : World} {kv bv : Value} {ks : List Nat} {bs : List (List UInt8)}
theorem Bods.start (base : Nat) (w : World) : Bods base w (.slice none 0 0) (.slice none 0 0) [] [] :=
 ⟨World.ownsRow_nil _ _ _ _, ⟨[], World.ownsRow_nil _ _ _ _, fun i h => absurd h (by simp)⟩, fun g h => by cases h⟩
theorem Bods.below (h : Bods base w kv bv ks bs) (hb : Below w.heap.size w w') : Bods base w' kv bv ks bs := by
 obtain ⟨vs, hv, hx⟩ := h.row
 refine ⟨own_below h.kinds hb, ⟨vs, own_below hv hb, fun i hi => ?_⟩, h.sep⟩
 obtain ⟨A, k, c, e, h1, h2, h3, h4⟩ := hx i hi
 exact ⟨A, k, c, e, h1, h2, (h3.below hb).up hb.size, fun a ha => ⟨Nat.lt_of_lt_of_le (h4 a ha).1 hb.size, (h4 a ha).2⟩⟩
theorem Bods.alloc (h : Bods base w kv bv ks bs) (o : Obj) : Bods base (w.alloc o) kv bv ks bs := h.below ((Below.refl _ _).alloc (Nat.le_refl _) o)
end
section
open Go.RowKit
end
section
open Go.RowKit
def bigs (ns : List Nat) : Bool := ns.any fun n => decide (281474976710656 < n)
theorem big_any (n : Nat) (w : World) : Calls Tryz.prog 261 #[.int .u64 (n : Int)] w fun e w' => e = .returned (.bool (decide ((281474976710656 : Int) < (n : Int)))) ∧ w = w' := by
 go_enter Tryz.func261, Tryz.ntmps261
 go_wp2
 go_ret
 exact ⟨rfl, rfl⟩
theorem bigs_take {ns : List Nat} {k : Nat} (hl : k < ns.length) : bigs (ns.take (k + 1)) = (bigs (ns.take k) || decide (281474976710656 < ns[k])) := by
 have h := (List.take_append_getElem hl).symm
 unfold bigs
 rw [h, List.any_append]
 simp
theorem bigs_of {ns : List Nat} {k : Nat} (hl : k < ns.length) (h : 281474976710656 < ns[k]) : bigs ns = true := by
 unfold bigs
 rw [List.any_eq_true]
 exact ⟨ns[k], List.getElem_mem hl, by simpa using h⟩
theorem bigs_idx (A : Option Addr) (n c : Nat) (ns : List Nat) (w : World) (hn : n ≤ 1000) (hr : Row w.heap.size w A n 1 (u64v ns)) :
  Calls Tryz.prog 295 #[.slice A n c, .func (.func 261) #[] #[]] w fun e w' => (∃ i : Int, e = .returned (.int .i64 i) ∧ decide (0 ≤ i) = bigs ns) ∧ w = w' := by
 have hnn := hr.unlen
 go_enter Tryz.func295, Tryz.ntmps295
 go_wp2
 go_loop [8] (fun i => ∃ k : Nat, k ≤ n ∧ i = .int .i64 (k : Int) ∧ Hid (bigs (ns.take k) = false)) (fun i => n - (intOf i).toNat)
 case atStart => exact ⟨0, Nat.zero_le _, rfl, Lib.hid rfl⟩
 case round =>
  obtain ⟨k, hk, rfl, hb⟩ := hrel
  by_cases hlt : k < n
  ·obtain ⟨a, hl, rfl, _, hc⟩ := hr.un hlt
   have ht := bigs_take hl
   have hof := bigs_of hl
   generalize ns[k] = x at *
   have HT := Lib.hid ht
   clear ht
   by_cases hx : 281474976710656 < x
   ·have HO := Lib.hid (hof hx)
    have hx' : (281474976710656 : Int) < (x : Int) := by omega
    clear hof
    go_wp2_with fail
    refine (big_any x w).mono ?_
    rintro e w1 ⟨rfl, rfl⟩
    go_wp2
    go_ret
    exact ⟨⟨k, rfl, by have h : bigs ns = true := HO; rw [h]; simp⟩, rfl⟩
   ·have hx' : ((281474976710656 : Int) < (x : Int)) = False := by simp; omega
    clear hof
    go_wp2_with fail
    refine (big_any x w).mono ?_
    rintro e w1 ⟨rfl, rfl⟩
    go_wp2
    go_round
    case rel =>
     refine ⟨k + 1, by omega, by go_num, Lib.hid ?_⟩
     have ht : bigs (ns.take (k + 1)) = (bigs (ns.take k) || decide (281474976710656 < x)) := HT
     have hb' : bigs (ns.take k) = false := hb
     rw [ht, hb']
     simpa using hx
    case measure => simp [intOf]; omega
  ·have hall : bigs ns = false := by
    have hb' : bigs (ns.take k) = false := hb
    rwa [List.take_of_length_le (by omega)] at hb'
   have HA := Lib.hid hall
   clear hall
   go_wp2
   go_ret
   exact ⟨⟨-1, rfl, by have h : bigs ns = false := HA; rw [h]; rfl⟩, rfl⟩
theorem bigs_has (A : Option Addr) (n c : Nat) (ns : List Nat) (w : World) (hn : n ≤ 1000) (hr : Row w.heap.size w A n 1 (u64v ns)) :
  Calls Tryz.prog 260 #[.slice A n c, .func (.func 261) #[] #[]] w fun e w' => e = .returned (.bool (bigs ns)) ∧ w = w' := by
 go_enter Tryz.func260, Tryz.ntmps260
 go_wp2_with fail
 refine (bigs_idx A n c ns w hn hr).mono ?_
 rintro e w' ⟨⟨i, rfl, hi⟩, rfl⟩
 have HI := Lib.hid hi
 clear hi
 go_wp2
 go_ret
 refine ⟨?_, rfl⟩
 have hi : decide (0 ≤ i) = bigs ns := HI
 rw [← hi]
 rfl
theorem meta_any (A : Option Addr) (n c : Nat) (ns : List Nat) (w : World) (hn : n ≤ 1000) (hr : Row w.heap.size w A n 1 (u64v ns)) :
  Calls Tryz.prog 230 #[.slice A n c] w fun e w' => e = .returned (.bool (!bigs ns)) ∧ w = w' := by
 go_enter Tryz.func230, Tryz.ntmps230
 go_wp2_with fail
 refine (bigs_has A n c ns w hn hr).mono ?_
 rintro e w' ⟨rfl, rfl⟩
 go_wp2
 go_ret
 exact ⟨rfl, rfl⟩
end
section
open Go.RowKit
theorem base_add (g t : Nat) : (⟨g, 0, none⟩ : Addr).add t = ⟨g, t, none⟩ := by
 unfold Addr.add
 split
 ·subst_vars; rfl
 ·simp
theorem u64_row (w : World) (e : TypeId) (cs : Array Value) (ns : List Nat) (n : Nat) (h : cs.toList = u64v ns) (hn : ns.length = n) : Row (w.alloc (.cells cs e)).heap.size (w.alloc (.cells cs e)) (some ⟨w.heap.size, 0, none⟩) n 1 (u64v ns) := by
 have h1 := (Row.new w cs e (n := n) (size := 1) (by rw [← Array.length_toList, h]; simp [u64v, hn])).up (B' := (w.alloc (.cells cs e)).heap.size) (by simp)
 rwa [h] at h1
end
section
open Go.RowKit
end
section
open Go.RowKit
theorem orElse_pos {a : Nat} (h : a ≠ 0) (b : Nat) : orElse a b = a := if_neg h
end
section
open Go.RowKit
end
section
open Go.RowKit
structure Bv where
 g : Nat
 f : Nat
 c : Nat
 a : Nat
 l : Nat
def Bv.zero : Bv := ⟨0, 0, 0, 0, 0⟩
def Bv.app (v e : Bv) : Bv := ⟨orElse e.g v.g, orElse e.f v.f, orElse e.c v.c, orElse e.a v.a, orElse e.l v.l⟩
def Bv.may (e : Bv) : Bool := decide (e.g ≤ 1073741824) && !bigs [e.f, e.c, e.a, e.l]
def Bv.ok (v : Bv) : Bool := decide (1 ≤ v.g) && v.may
def Bv.bytes (e : Bv) : List UInt8 := Ed.bytes ⟨[], [], e.g, e.f, e.c, e.a, e.l⟩
def Bv.cells (v : Bv) : List Value := [.int .i64 (v.g : Int), .slice none 0 0, .int .u64 (v.f : Int), .int .u64 (v.c : Int), .int .u64 (v.a : Int), .int .u64 (v.l : Int)]
def Bv.run (es : List Bv) : Bv := es.foldl Bv.app Bv.zero
theorem Bv.run_snoc (es : List Bv) (e : Bv) : Bv.run (es ++ [e]) = (Bv.run es).app e := by simp [Bv.run]
theorem Bv.may_iff {e : Bv} : e.may = true ↔ e.g ≤ 1073741824 ∧ bigs [e.f, e.c, e.a, e.l] = false := by simp [Bv.may]
theorem Bv.ok_iff {e : Bv} : e.ok = true ↔ 1 ≤ e.g ∧ e.g ≤ 1073741824 ∧ bigs [e.f, e.c, e.a, e.l] = false := by simp [Bv.ok, Bv.may]
theorem Bods.chg {base : Nat} {w w' : World} {kv bv : Value} {ks : List Nat} {bs : List (List UInt8)} {g : Nat} (h : Bods base w kv bv ks bs) (c : Chg [g] w w') (hg : g < base) : Bods base w' kv bv ks bs := by
 have hgr : w.grownBy w' (some g) := ⟨c.os, c.tape, c.output, c.size, fun k hk hne => c.block k hk (by simp; intro e; exact hne (by rw [e]))⟩
 obtain ⟨vs, hv, hx⟩ := h.row
 refine ⟨h.kinds.kept hgr (.inr (fun e => ?_)), ⟨vs, hv.kept hgr (.inr (fun e => ?_)), fun i hi => ?_⟩, h.sep⟩
 ·have := (h.kinds.lt _ e).1
  omega
 ·have := (hv.lt _ e).1
  omega
 ·obtain ⟨A, k, c1, e, h1, h2, h3, h4⟩ := hx i hi
  exact ⟨A, k, c1, e, h1, h2, (h3.grow hgr (fun a ha e => by have := (h4 a ha).2.2.2; injection e with e; omega)).up c.size, fun a ha => ⟨Nat.lt_of_lt_of_le (h4 a ha).1 c.size, (h4 a ha).2⟩⟩
end
section
open Go
namespace Sd
variable {d : Sd}
theorem create_load (d : Sd) (s : List UInt8) : (d.create s).1.load ≤ d.load + 2 := by
 have h := call_load d [s]
 obtain ⟨e1, e2, e3, e4, _⟩ := call_same d [s]
 unfold create
 dsimp only
 split
 ·omega
 ·split
  ·exact Nat.le_trans (Nat.le_of_eq h) (Nat.le_add_right _ _)
  ·split
   ·exact Nat.le_trans (Nat.le_of_eq h) (Nat.le_add_right _ _)
   ·simp only [load, List.length_append, List.length_singleton]
    omega
theorem append_load (d : Sd) (s b : List UInt8) : (d.append s b).1.load = d.load := by
 have h := call_load d [s]
 obtain ⟨e1, e2, e3, e4, _⟩ := call_same d [s]
 unfold append
 dsimp only
 split
 ·exact h
 ·split
  ·exact h
  ·split
   ·exact h
   ·split
    ·exact h
    ·simp [load, e4]
theorem sync_load (d : Sd) (s : List UInt8) : (d.sync s).1.load = d.load := by
 have h := call_load d [s]
 obtain ⟨e1, e2, e3, e4, _⟩ := call_same d [s]
 unfold sync
 dsimp only
 split
 ·exact h
 ·split
  ·exact h
  ·simp [load, e4]
theorem rename_load (d : Sd) (a b : List UInt8) : (d.rename a b).1.load ≤ d.load + 1 := by
 have h := call_load d [a, b]
 obtain ⟨e1, e2, e3, e4, _⟩ := call_same d [a, b]
 unfold rename
 dsimp only
 split
 ·omega
 ·split
  ·exact Nat.le_trans (Nat.le_of_eq h) (Nat.le_add_right _ _)
  ·split
   ·exact Nat.le_trans (Nat.le_of_eq h) (Nat.le_add_right _ _)
   ·simp only [load, List.length_append, List.length_singleton, e3]
    omega
theorem remove_load (d : Sd) (s : List UInt8) : (d.remove s).1.load ≤ d.load + 1 := by
 have h := call_load d [s]
 obtain ⟨e1, e2, e3, e4, _⟩ := call_same d [s]
 unfold remove
 dsimp only
 split
 ·omega
 ·split
  ·exact Nat.le_trans (Nat.le_of_eq h) (Nat.le_add_right _ _)
  ·simp only [load, List.length_append, List.length_singleton, e3]
   omega
theorem syncDir_load (d : Sd) : (d.syncDir).1.load ≤ d.load := by
 have h := call_load d []
 obtain ⟨e1, e2, e3, e4, _⟩ := call_same d []
 unfold syncDir
 dsimp only
 split
 ·omega
 ·simp [load, e3]
def write (d : Sd) (s b : List UInt8) : Sd × Nat :=
 if (d.create s).2 ≠ 0 then d.create s
 else if ((d.create s).1.append s b).2 ≠ 0 then (d.create s).1.append s b
 else ((d.create s).1.append s b).1.sync s
theorem Wf.write {d : Sd} (h : d.Wf) (s b : List UInt8) : (d.write s b).1.Wf := by
 unfold Sd.write
 split
 ·exact h.create s
 ·split
  ·exact (h.create s).append s b
  ·exact ((h.create s).append s b).sync s
theorem write_load (d : Sd) (s b : List UInt8) : (d.write s b).1.load ≤ d.load + 2 := by
 have h1 := create_load d s
 have h2 := append_load (d.create s).1 s b
 have h3 := sync_load ((d.create s).1.append s b).1 s
 unfold write
 split
 ·omega
 ·split
  ·omega
  ·omega
end Sd
structure Ms where
 name : List UInt8
 v : Bv
 count : Nat
 broken : Bool
namespace Mn
def greatest (l : List (List UInt8)) (kind : List UInt8) : Int := l.foldl (fun m s => max m ((number s kind).getD 0)) 0
theorem greatest_take {l : List (List UInt8)} {k : Nat} (h : k < l.length) (kind : List UInt8) : greatest (l.take (k + 1)) kind = max (greatest (l.take k) kind) ((number l[k] kind).getD 0) := by
 unfold greatest
 rw [List.take_succ_eq_append_getElem h, List.foldl_append]
 rfl
theorem number_fits {s kind : List UInt8} {v : Int} (h : number s kind = some v) (hs : s ≠ []) : 1 ≤ v ∧ v ≤ 1073741824 := by
 have h1 := number_some h
 by_cases hf : (fits v && isKind kind) = true
 ·simp [fits] at hf; omega
 ·rw [name, if_neg hf] at h1; exact absurd h1.symm hs
end Mn
namespace Mw
open Mn
def kCur : List UInt8 := [99, 117, 114, 114, 101, 110, 116]
def kTemp : List UInt8 := [99, 117, 114, 114, 101, 110, 116, 46, 116, 109, 112]
def recB (v : Bv) : List UInt8 := Fr.put 6 v.bytes
def headB (n : Int) : List UInt8 := Fr.put 8 (Pn.put n.toNat)
def sweep (nm : List UInt8) : List (List UInt8) → Sd → Sd
 | [], d => d
 | o :: r, d => sweep nm r (if (number o kMan).isSome && !(o == nm) then (d.remove o).1 else d)
def fin (d : Sd) (M : Ms) (nm : List UInt8) : Sd × Ms × Nat :=
 if (d.syncDir).2 ≠ 0 then ((d.syncDir).1, { M with name := nm, count := 1, broken := true }, (d.syncDir).2)
 else (sweep nm (d.syncDir).1.list (d.syncDir).1, { M with name := nm, count := 1 }, 0)
def ren (d : Sd) (M : Ms) (nm : List UInt8) : Sd × Ms × Nat :=
 if (d.rename kTemp kCur).2 ≠ 0 then ((d.rename kTemp kCur).1, M, (d.rename kTemp kCur).2) else fin (d.rename kTemp kCur).1 M nm
def sd1 (d : Sd) (M : Ms) (nm : List UInt8) : Sd × Ms × Nat :=
 if (d.syncDir).2 ≠ 0 then ((d.syncDir).1, M, (d.syncDir).2) else ren (d.syncDir).1 M nm
def hd (d : Sd) (M : Ms) (nm : List UInt8) : Sd × Ms × Nat :=
 if (d.write kTemp (headB ((number nm kMan).getD 0))).2 ≠ 0 then ((d.write kTemp (headB ((number nm kMan).getD 0))).1, M, (d.write kTemp (headB ((number nm kMan).getD 0))).2)
 else sd1 (d.write kTemp (headB ((number nm kMan).getD 0))).1 M nm
def tmp (d : Sd) (M : Ms) (nm : List UInt8) : Sd × Ms × Nat :=
 if (d.read kTemp).2 = 0 then
  if (d.remove kTemp).2 ≠ 0 then ((d.remove kTemp).1, M, (d.remove kTemp).2) else hd (d.remove kTemp).1 M nm
 else hd d M nm
def rewrite (d : Sd) (M : Ms) (nm : List UInt8) : Sd × Ms × Nat :=
 if (d.write nm (recB M.v)).2 ≠ 0 then ((d.write nm (recB M.v)).1, M, (d.write nm (recB M.v)).2)
 else tmp (d.write nm (recB M.v)).1 M nm
def save (d : Sd) (M : Ms) (e : Bv) : Sd × Ms × Nat :=
 if M.broken = true then (d, M, 14)
 else if (d.append M.name (recB e)).2 ≠ 0 then ((d.append M.name (recB e)).1, M, (d.append M.name (recB e)).2)
 else if ((d.append M.name (recB e)).1.sync M.name).2 ≠ 0 then (((d.append M.name (recB e)).1.sync M.name).1, { M with count := M.count + 1, v := M.v.app e, broken := true }, ((d.append M.name (recB e)).1.sync M.name).2)
 else (((d.append M.name (recB e)).1.sync M.name).1, { M with count := M.count + 1, v := M.v.app e }, 0)
end Mw
end
section
open Go
structure Gs where
 name : List UInt8
 v : Vw
 count : Nat
 broken : Bool
namespace Gw
open Mn
open Mw (kCur kTemp headB sweep)
def fin (d : Sd) (M : Gs) (nm : List UInt8) : Sd × Gs × Nat :=
 if (d.syncDir).2 ≠ 0 then ((d.syncDir).1, { M with name := nm, count := 1, broken := true }, (d.syncDir).2)
 else (sweep nm (d.syncDir).1.list (d.syncDir).1, { M with name := nm, count := 1 }, 0)
def ren (d : Sd) (M : Gs) (nm : List UInt8) : Sd × Gs × Nat :=
 if (d.rename kTemp kCur).2 ≠ 0 then ((d.rename kTemp kCur).1, M, (d.rename kTemp kCur).2) else fin (d.rename kTemp kCur).1 M nm
def sd1 (d : Sd) (M : Gs) (nm : List UInt8) : Sd × Gs × Nat :=
 if (d.syncDir).2 ≠ 0 then ((d.syncDir).1, M, (d.syncDir).2) else ren (d.syncDir).1 M nm
def hd (d : Sd) (M : Gs) (nm : List UInt8) : Sd × Gs × Nat :=
 if (d.write kTemp (headB ((number nm kMan).getD 0))).2 ≠ 0 then ((d.write kTemp (headB ((number nm kMan).getD 0))).1, M, (d.write kTemp (headB ((number nm kMan).getD 0))).2)
 else sd1 (d.write kTemp (headB ((number nm kMan).getD 0))).1 M nm
def tmp (d : Sd) (M : Gs) (nm : List UInt8) : Sd × Gs × Nat :=
 if (d.read kTemp).2 = 0 then
  if (d.remove kTemp).2 ≠ 0 then ((d.remove kTemp).1, M, (d.remove kTemp).2) else hd (d.remove kTemp).1 M nm
 else hd d M nm
def rewrite (d : Sd) (M : Gs) (nm : List UInt8) : Sd × Gs × Nat :=
 if (d.write nm M.v.whole.rec_).2 ≠ 0 then ((d.write nm M.v.whole.rec_).1, M, (d.write nm M.v.whole.rec_).2)
 else tmp (d.write nm M.v.whole.rec_).1 M nm
def put (d : Sd) (M : Gs) (e : Ed) (v : Vw) : Sd × Gs × Nat :=
 if (d.append M.name e.rec_).2 ≠ 0 then ((d.append M.name e.rec_).1, M, (d.append M.name e.rec_).2)
 else if ((d.append M.name e.rec_).1.sync M.name).2 ≠ 0 then (((d.append M.name e.rec_).1.sync M.name).1, { M with count := M.count + 1, v := v, broken := true }, ((d.append M.name e.rec_).1.sync M.name).2)
 else (((d.append M.name e.rec_).1.sync M.name).1, { M with count := M.count + 1, v := v }, 0)
def save (d : Sd) (M : Gs) (e : Ed) : Sd × Gs × Nat :=
 if M.broken = true then (d, M, 14)
 else if e.may = false then (d, M, 1)
 else match M.v.app e with
  | none => (d, M, 1)
  | some v => put d M e v
end Gw
theorem Vw.whole_may {v : Vw} (h : v.ok = true) : v.whole.may = true := by
 simp only [Vw.ok, isNum, Bool.and_eq_true, decide_eq_true_eq] at h
 obtain ⟨⟨⟨⟨⟨h1, h2⟩, h3⟩, h4⟩, h5⟩, _⟩ := h
 have e1 : decide (0 ≤ v.log) = true := by simp; omega
 have e2 : decide (v.log ≤ 1073741824) = true := by simp; omega
 simp [Ed.may, Vw.whole, h3, h4, h5]
 exact ⟨e1, e2⟩
theorem Ed.rec_len {e : Ed} (h : e.may = true) : e.rec_.length ≤ 2012 := by
 have := Ed.bytes_len e h
 rw [Ed.rec_, Fr.put_length]
 omega
end
end Go.Proofs.YtdkjoigpahafmaaGreatDoor
