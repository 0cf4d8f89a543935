/- Texts Seal, PlainNum, Chg, NumA, NumB, NumC, PlainFrame, PlainEdit, FrameA, Open in one. No conditions. -/
import Derived.Test.YthepokgkfaocmaaGreatDoorBunAA
import Derived.Below
import Derived.Test.YthepokgkfaocmaaGreatDoorShelf
import Derived.Deep.RegionWith
import Derived.Deep.DeepCutAuto

/-
  The walks of the sums, behind: sum.Seal: it computes what the plain law says, and changes nothing that was there.
-/
namespace Go.Proofs.YthepokgkfaocmaaGreatDoor
open Go.RowKit

theorem info_u8 : (Tryz.prog.info? 5).map (fun i => (i.zero, i.size, i.bytes)) = some (some (.int .u8 0), 1, 1) := by kernel_rfl

theorem four_cells (x : BitVec 32) : bts (Crc.four x) = [.int .u8 ((x.toNat : Int) % 256), .int .u8 ((x.toNat : Int) / 256 % 256), .int .u8 ((x.toNat : Int) / 65536 % 256), .int .u8 ((x.toNat : Int) / 16777216)] := by
  have := x.isLt
  have h4 : x.toNat / 16777216 % 256 = x.toNat / 16777216 := Nat.mod_eq_of_lt (by omega)
  simp [bts, Crc.four, h4]

set_option maxHeartbeats 400000 in
theorem seal_any (A : Option Addr) (n c : Nat) (l : List UInt8) (w : World) (hn : n ≤ c) (hm : c ≤ maxLen) (hbig : n ≤ 1073741824) (hr : Row w.heap.size w A n 1 (bts l)) :
    Calls Tryz.prog 97 #[.slice A n c] w fun e w' => ∃ A' c', e = .returned (.slice A' (n + 4) c') ∧ w'.ownsRow w.heap.size 5 1 (.slice A' (n + 4) c') (n + 4) (bts (Crc.sealed l)) ∧ n + 4 ≤ c' ∧ c' ≤ maxLen ∧ Below w.heap.size w w' := by
  obtain ⟨i0, hi0, hz0, hz1, hz2⟩ := info_parts info_u8
  go_enter Tryz.func97, Tryz.ntmps97
  go_wp2_with fail
  refine (of_any A n c l w hn hm hr).mono ?_
  rintro e w1 ⟨rfl, hb1⟩
  generalize hx : Crc.sum l = x
  have HX := Lib.hid hx
  clear hx
  have hx0 : 0 ≤ (x.toNat : Int) := by omega
  have hx1 : (x.toNat : Int) ≤ 4294967295 := by have := x.isLt; omega
  go_wp2_with (at_builtin; refine stop_in ?_)
  refine stop_out (wpList_app0 rfl (.const (.slice none 0 0)) (.tmp 6) _ rfl w.heap.size 5 i0 _ 1 1 Tryz.underlying32 hi0 hz0 hz1 hz2 rfl (by omega) w hb1 hb1.size rfl w.heap.size A n c (bts l) rfl (hr.below hb1) (bts_one l) (by unfold maxLen; omega) (by omega) ?_)
  intro A2 c2 w2 hown2 hb2 hg2 hc2 hm2
  go_wp2_with (at_builtin; refine stop_in ?_)
  have hrow : Row (w2.heap.size + 1) (w2.alloc (.cells #[.int .u8 ((x.toNat : Int) % 256), .int .u8 ((x.toNat : Int) / 256 % 256), .int .u8 ((x.toNat : Int) / 65536 % 256), .int .u8 ((x.toNat : Int) / 16777216)] 5)) (some ⟨w2.heap.size, 0, none⟩) 4 1 (bts (Crc.four x)) := by
    rw [four_cells]
    exact Row.new w2 _ _ rfl
  refine stop_out (wpList_app rfl (.tmp 7) (.tmp 19) _ rfl w.heap.size 5 i0 _ 1 1 Tryz.underlying32 hi0 hz0 hz1 hz2 rfl (by omega) w (hb2.alloc hb2.size _) (by have := hb2.size; simp; omega) (.slice A2 n c2) n (bts l) rfl (hown2.alloc _) (w2.heap.size + 1) _ 4 4 (bts (Crc.four x)) rfl hrow (bts_one _) (n + 4) (bts (l ++ Crc.four x)) rfl (bts_append _ _).symm (by unfold maxLen; omega) (by omega) ?_)
  intro A3 c3 w3 hown3 hb3 _ hc3 hm3
  go_wp2
  go_ret
  exact ⟨A3, c3, rfl, by rw [Crc.sealed, HX.out]; exact hown3, hc3, hm3, hb3⟩
end Go.Proofs.YthepokgkfaocmaaGreatDoor

/-
  Numbers as bytes, in plain Lean: groups of seven bits; a list of numbers; what is put is taken.
-/
namespace Go.Proofs.YthepokgkfaocmaaGreatDoor

namespace Pn
/-- A number's bytes, of at most k + 1 groups. -/
def putF : Nat → Nat → List UInt8
  | 0, n => [UInt8.ofNat n]
  | k + 1, n => if n < 128 then [UInt8.ofNat n] else UInt8.ofNat (n % 128 + 128) :: putF k (n / 128)
/-- A number's bytes. -/
def put (n : Nat) : List UInt8 := putF 9 n
/-- The number that bytes begin with, i of them taken: the number, how many bytes, the error. -/
def takeF : Nat → Nat → List UInt8 → Nat × Nat × Nat
  | _, _, [] => (0, 0, 4)
  | i, acc, c :: r => if (i = 9 ∧ 1 < c.toNat) ∨ (0 < i ∧ c.toNat = 0) then (0, 0, 3) else if c.toNat < 128 then (acc + c.toNat * 2 ^ (7 * i), i + 1, 0) else takeF (i + 1) (acc + (c.toNat - 128) * 2 ^ (7 * i)) r
def take (l : List UInt8) : Nat × Nat × Nat := takeF 0 0 l
/-- So many numbers, from a place on. -/
def unlistF : Nat → Nat → List UInt8 → List Nat → List Nat × Nat × Nat
  | 0, at_, _, out => (out, at_, 0)
  | k + 1, at_, l, out => match take (l.drop at_) with
    | (x, size, 0) => unlistF k (at_ + size) l (out ++ [x])
    | (_, _, e) => ([], 0, e)
def unlist (l : List UInt8) (most : Nat) : List Nat × Nat × Nat := match take l with
    | (n, at_, 0) => if most < n then ([], 0, 2) else unlistF n at_ l []
    | (_, _, e) => ([], 0, e)
/-- Numbers, with how many ahead. -/
def list (l : List Nat) : List UInt8 := put l.length ++ l.flatMap put

theorem putF_len : ∀ k n, 1 ≤ (putF k n).length ∧ (putF k n).length ≤ k + 1
  | 0, _ => by simp [putF]
  | k + 1, n => by
    have := putF_len k (n / 128)
    unfold putF
    split <;> simp <;> omega
theorem put_len (n : Nat) : 1 ≤ (put n).length ∧ (put n).length ≤ 10 := putF_len 9 n
/-- Once within its room a number's bytes do not hang on how much there is. -/
theorem putF_more : ∀ k n, n < 128 ^ (k + 1) → putF (k + 1) n = putF k n
  | 0, n, h => by
    have h0 : n < 128 := by simpa using h
    simp [putF, h0]
  | k + 1, n, h => by
    have h1 : n / 128 < 128 ^ (k + 1) := by
      rw [Nat.div_lt_iff_lt_mul (by decide)]
      rw [Nat.pow_succ] at h
      exact h
    rw [putF, putF_more k _ h1]
    conv => rhs; rw [putF]

theorem pow7 (i : Nat) : 2 ^ (7 * (i + 1)) = 128 * 2 ^ (7 * i) := by
  rw [show 7 * (i + 1) = 7 * i + 7 from by omega, Nat.pow_add]
  omega
theorem u8_toNat (n : Nat) (h : n < 256) : (UInt8.ofNat n).toNat = n := by
  rw [UInt8.toNat_ofNat']
  omega
theorem takeF_putF : ∀ (k i acc n : Nat) (r : List UInt8), i + k = 9 → (0 < i → 0 < n) → n < 2 ^ (64 - 7 * i) → takeF i acc (putF k n ++ r) = (acc + n * 2 ^ (7 * i), i + (putF k n).length, 0)
  | 0, i, acc, n, r, hi, h0, hn => by
    obtain rfl : i = 9 := by omega
    have h2 : n < 2 := by simpa using hn
    have := h0 (by omega)
    have e : (UInt8.ofNat n).toNat = n := u8_toNat n (by omega)
    simp only [putF, List.cons_append, List.nil_append, takeF, e]
    rw [if_neg (by omega), if_pos (by omega)]
    simp
  | k + 1, i, acc, n, r, hi, h0, hn => by
    unfold putF
    split
    · rename_i hl
      have e : (UInt8.ofNat n).toNat = n := u8_toNat n (by omega)
      simp only [List.cons_append, List.nil_append, takeF, e]
      rw [if_neg (by omega), if_pos (by omega)]
      simp
    · rename_i hl
      have e : (UInt8.ofNat (n % 128 + 128)).toNat = n % 128 + 128 := u8_toNat _ (by omega)
      simp only [List.cons_append, takeF, e]
      rw [if_neg (by omega), if_neg (by omega)]
      have h1 : n / 128 < 2 ^ (64 - 7 * (i + 1)) := by
        rw [Nat.div_lt_iff_lt_mul (by decide)]
        have : 2 ^ (64 - 7 * (i + 1)) * 128 = 2 ^ (64 - 7 * i) := by
          rw [show (128 : Nat) = 2 ^ 7 from rfl, ← Nat.pow_add]
          congr 1
          omega
        omega
      rw [takeF_putF k (i + 1) _ (n / 128) r (by omega) (by omega) h1, pow7]
      congr 1
      · have : n = 128 * (n / 128) + n % 128 := (Nat.div_add_mod n 128).symm
        have e2 : n * 2 ^ (7 * i) = n / 128 * (128 * 2 ^ (7 * i)) + (n % 128) * 2 ^ (7 * i) := by
          conv => lhs; rw [this]
          rw [Nat.add_mul, Nat.mul_comm 128 (n / 128), Nat.mul_assoc]
        rw [e2]
        have e3 : n % 128 + 128 - 128 = n % 128 := by omega
        rw [e3]
        omega
      · simp only [List.length_cons]
        congr 1
        omega
/-- What was put is taken. -/
theorem take_put (n : Nat) (r : List UInt8) (hn : n < 2 ^ 64) : take (put n ++ r) = (n, (put n).length, 0) := by
  have := takeF_putF 9 0 0 n r rfl (by omega) (by simpa using hn)
  simpa [take, put] using this
end Pn
end Go.Proofs.YthepokgkfaocmaaGreatDoor

/-
  Words for memory: what may have changed is a list of blocks ('Chg'), for objects that are changed in place over many calls.
-/
namespace Go.Proofs.YthepokgkfaocmaaGreatDoor
open Go Go.RowKit

/-- From w to w' the heap has grown, and of the old blocks those of F alone may have changed. -/
structure Chg (F : List Nat) (w w' : World) : Prop where
  os : w'.os = w.os
  tape : w'.tape = w.tape
  output : w'.output = w.output
  size : w.heap.size ≤ w'.heap.size
  block : ∀ k, k < w.heap.size → k ∉ F → w'.heap[k]? = w.heap[k]?

variable {F G : List Nat} {w w' w'' : World}
theorem Chg.refl (F : List Nat) (w : World) : Chg F w w := ⟨rfl, rfl, rfl, Nat.le_refl _, fun _ _ _ => rfl⟩
/-- The second step may change what the first may, and what the first has made. -/
theorem Chg.trans (h : Chg F w w') (k : Chg G w' w'') (hG : ∀ g ∈ G, g ∈ F ∨ w.heap.size ≤ g) : Chg F w w'' :=
  ⟨k.os.trans h.os, k.tape.trans h.tape, k.output.trans h.output, Nat.le_trans h.size k.size, fun b hb hF => (k.block b (Nat.lt_of_lt_of_le hb h.size) (fun hg => by
    rcases hG b hg with h1 | h1
    · exact hF h1
    · omega)).trans (h.block b hb hF)⟩
theorem Chg.mono (h : Chg F w w') (hF : ∀ g ∈ F, g ∈ G ∨ w.heap.size ≤ g) : Chg G w w' :=
  ⟨h.os, h.tape, h.output, h.size, fun b hb hG => h.block b hb (fun hf => by
    rcases hF b hf with h1 | h1
    · exact hG h1
    · omega)⟩
theorem Chg.of_below (h : Below w.heap.size w w') (F : List Nat) : Chg F w w' := ⟨h.os, h.tape, h.output, h.size, fun b hb _ => h.block b hb⟩
theorem Chg.below (h : Chg F w w') {B : Nat} (hB : B ≤ w.heap.size) (hF : ∀ g ∈ F, B ≤ g) : Below B w w' := ⟨h.os, h.tape, h.output, h.size, fun b hb => h.block b (Nat.lt_of_lt_of_le hb hB) (fun hf => by have := hF b hf; omega)⟩
theorem Chg.of_grown {g : Option Nat} (h : w.grownBy w' g) (hg : ∀ b, g = some b → b ∈ F) : Chg F w w' := ⟨h.os, h.tape, h.output, h.size, fun b hb hF => h.block b hb (fun e => hF (hg b e.symm))⟩
theorem Chg.drewN (h : Chg F w w') (n : Nat) : Chg F w (w'.drewN n) := ⟨h.os, h.tape, h.output, h.size, h.block⟩
theorem Chg.drew (h : Chg F w w') : Chg F w w'.drew := ⟨h.os, h.tape, h.output, h.size, h.block⟩
theorem Chg.cell (h : Chg F w w') {p : Addr} (hp : p.block < w.heap.size) (hF : p.block ∉ F) : w'.cell? p = w.cell? p := World.cell?_of_block (h.block p.block hp hF)
theorem Chg.row {B n size : Nat} {A : Option Addr} {xs : List Value} (h : Chg F w w') (r : Row B w A n size xs) (hB : B ≤ w.heap.size) (hF : ∀ a, A = some a → a.block ∉ F) : Row B w' A n size xs :=
  ⟨r.len, fun j hj => let ⟨a, e, b, c⟩ := r.cell j hj; ⟨a, e, b, (h.cell (p := a.add j) (by rw [add_block]; omega) (by rw [add_block]; exact hF a e)).trans c⟩⟩
theorem later_ {w X w1 : World} (h : Below w.heap.size w X) (h1 : Below X.heap.size X w1) : Below w.heap.size w w1 := h.trans (h1.mono h.size)
theorem below_drew {B : Nat} {w X : World} (h : Below B w X) : Below B w X.drew := ⟨h.os, h.tape, h.output, h.size, h.block⟩
theorem Chg.alloc (h : Chg F w w') (o : Obj) : Chg F w (w'.alloc o) :=
  h.trans (Chg.of_below ((Below.refl _ _).alloc (Nat.le_refl _) o) []) (fun g hg => by cases hg)
theorem Chg.setCell (h : Chg F w w') {p : Addr} (v : Value) (hp : p.block ∈ F ∨ w.heap.size ≤ p.block) : Chg F w (w'.setCell p v) :=
  ⟨h.os, h.tape, h.output, by simpa using h.size, fun k hk hF => by
    have e : (w'.setCell p v).heap[k]? = w'.heap[k]? := by
      refine Below.heap_setCell w' p v k (fun e => ?_)
      subst e
      rcases hp with hp | hp
      · exact hF hp
      · omega
    rw [e]
    exact h.block k hk hF⟩
theorem Chg.frozen (h : Chg F w w') {p : Addr} (hp : p.block < w.heap.size) (hF : p.block ∉ F) : w'.frozen? p = w.frozen? p := World.frozen?_of_block (h.block p.block hp hF)
end Go.Proofs.YthepokgkfaocmaaGreatDoor

/-
  The walk of num.Put: a number's bytes behind a text, in memory of the call's own.
-/
namespace Go.Proofs.YthepokgkfaocmaaGreatDoor
open Go.RowKit

theorem or_top (x : Nat) : bits .or .u8 ((x : Int) % 256) 128 = ((UInt8.ofNat (x % 128 + 128)).toNat : Int) := by
  have key : ∀ y : Fin 256, bits .or .u8 ((y.val : Nat) : Int) 128 = ((y.val % 128 + 128 : Nat) : Int) := by decide +kernel
  have h := key ⟨x % 256, Nat.mod_lt _ (by decide)⟩
  simp only at h
  rw [show ((x : Int) % 256) = ((x % 256 : Nat) : Int) from by omega, h, UInt8.toNat_ofNat']
  omega
theorem byte_of_nat (x : Nat) : (x : Int) % 256 = ((UInt8.ofNat x).toNat : Int) := by
  rw [UInt8.toNat_ofNat']
  omega
theorem bts_snoc (l : List UInt8) (c : UInt8) : bts (l ++ [c]) = bts l ++ [.int .u8 (c.toNat : Int)] := by simp [bts]
/-- A box of one byte, as an append reads it. -/
theorem box_row (w : World) (e : TypeId) (c : UInt8) : Row (w.heap.size + 1) (w.alloc (.cells #[.int .u8 (c.toNat : Int)] e)) (some ⟨w.heap.size, 0, none⟩) 1 1 (bts [c]) := by
  have := Row.new w #[.int .u8 (c.toNat : Int)] e (n := 1) (size := 1) rfl
  simpa [bts] using this

set_option maxRecDepth 100000 in
set_option maxHeartbeats 1000000 in
theorem put_any (A : Option Addr) (N c : Nat) (l : List UInt8) (n : Nat) (hn : n < 18446744073709551616) (w : World) (hN : N ≤ 1073741824) (hr : Row w.heap.size w A N 1 (bts l)) :
    Calls Tryz.prog 69 #[.slice A N c, .int .u64 (n : Int)] w fun e w' => ∃ A' c', e = .returned (.slice A' (N + (Pn.put n).length) c') ∧
      w'.ownsRow w.heap.size 5 1 (.slice A' (N + (Pn.put n).length) c') (N + (Pn.put n).length) (bts (l ++ Pn.put n)) ∧ N + (Pn.put n).length ≤ c' ∧ c' ≤ maxLen ∧ Below w.heap.size w w' := by
  obtain ⟨i0, hi0, hz0, hz1, hz2⟩ := info_parts info_u8
  go_enter Tryz.func69, Tryz.ntmps69
  go_wp2_with (at_builtin; refine stop_in ?_)
  refine stop_out (wpList_app0 rfl (.const (.slice none 0 0)) (.tmp 6) _ rfl w.heap.size 5 i0 _ 1 1 Tryz.underlying32 hi0 hz0 hz1 hz2 rfl (by omega) w (Below.refl _ _) (Nat.le_refl _) rfl w.heap.size A N c (bts l) rfl hr (bts_one l) (by unfold maxLen; omega) (by omega) ?_)
  intro A2 c2 w2 hown2 hb2 hg2 hc2 hm2
  go_wp2
  go_loopw [5, 1] (fun o m wr => ∃ (k n' : Nat) (pre : List UInt8) (A' : Option Addr) (c' : Nat), o = .slice A' (N + k) c' ∧ m = .int .u64 (n' : Int) ∧ wr.ownsRow w.heap.size 5 1 (.slice A' (N + k) c') (N + k) (bts (l ++ pre)) ∧ N + k ≤ c' ∧ c' ≤ maxLen ∧
    pre ++ Pn.putF (9 - k) n' = Pn.put n ∧ k ≤ 9 ∧ n' < 2 ^ (64 - 7 * k) ∧ Below w.heap.size w wr) (fun _ m _ => (intOf m).toNat)
  case atStart => exact ⟨0, n, [], A2, c2, rfl, rfl, by simpa using hown2, hc2, hm2, rfl, by omega, by simpa using hn, hb2⟩
  case round =>
    obtain ⟨k, n', pre, A', c', rfl, rfl, hown, hc', hm', hp, hk, hl, hb⟩ := hrel
    have hpl : pre.length = k := by
      have h1 := hown.1
      rw [bts_length, List.length_append] at h1
      have h2 := hr.btlen
      omega
    have HP := Lib.hid hp
    have HL := Lib.hid hl
    have HPL := Lib.hid hpl
    have h64 : n' < 18446744073709551616 := by
      refine Nat.lt_of_lt_of_le hl ?_
      exact Nat.pow_le_pow_right (n := 2) (by decide) (show 64 - 7 * k ≤ 64 by omega)
    clear hp hl hpl
    by_cases h128 : 128 ≤ n'
    · have hlt : ((n' : Int) < 128) = False := by simp; omega
      have hge : ((128 : Int) ≤ (n' : Int)) := by omega
      go_wp2_with (at_builtin; refine stop_in ?_)
      have hbox : Row (wr.heap.size + 1) (wr.alloc (.cells #[.int .u8 ((UInt8.ofNat (n' % 128 + 128)).toNat : Int)] 5)) (some ⟨wr.heap.size, 0, none⟩) 1 1 (bts [UInt8.ofNat (n' % 128 + 128)]) := box_row _ _ _
      rw [← or_top] at hbox
      refine stop_out (wpList_app rfl (.tmp 12) (.tmp 16) _ rfl w.heap.size 5 i0 _ 1 1 Tryz.underlying32 hi0 hz0 hz1 hz2 rfl (by omega) w (hb.alloc hb.size _) (Nat.le_trans hb.size (by simp)) _ (N + k) (bts (l ++ pre)) rfl (hown.alloc _) (wr.heap.size + 1) _ 1 1 (bts [UInt8.ofNat (n' % 128 + 128)]) rfl hbox (bts_one _) (N + (k + 1)) (bts (l ++ (pre ++ [UInt8.ofNat (n' % 128 + 128)]))) (by omega) (by simp [bts]) (by unfold maxLen; omega) (by omega) ?_)
      intro A3 c3 w3 hown3 hb3 _ hc3 hm3
      go_wp2
      go_roundw
      case rel =>
        have hp : pre ++ Pn.putF (9 - k) n' = Pn.put n := HP
        have hl : n' < 2 ^ (64 - 7 * k) := HL
        have hk9 : k ≠ 9 := by
          rintro rfl
          omega
        refine ⟨k + 1, n' / 128, pre ++ [UInt8.ofNat (n' % 128 + 128)], A3, c3, rfl, ?_, hown3, hc3, hm3, ?_, by omega, ?_, hb3⟩
        · go_num
        · rw [← hp, show 9 - k = (9 - (k + 1)) + 1 from by omega, Pn.putF, if_neg (by omega)]
          simp
        · rw [Nat.div_lt_iff_lt_mul (by decide), show (128 : Nat) = 2 ^ 7 from rfl, ← Nat.pow_add, show 64 - 7 * (k + 1) + 7 = 64 - 7 * k from by omega]
          exact hl
      case measure => simp [intOf]; omega
    · have hlt : ((128 : Int) ≤ (n' : Int)) = False := by simp; omega
      go_wp2_with (at_builtin; refine stop_in ?_)
      have hbox : Row (wr.heap.size + 1) (wr.alloc (.cells #[.int .u8 ((UInt8.ofNat n').toNat : Int)] 5)) (some ⟨wr.heap.size, 0, none⟩) 1 1 (bts [UInt8.ofNat n']) := box_row _ _ _
      rw [show ((UInt8.ofNat n').toNat : Int) = (n' : Int) from by rw [← byte_of_nat]; omega] at hbox
      have hfin : pre ++ [UInt8.ofNat n'] = Pn.put n := by
        have hp : pre ++ Pn.putF (9 - k) n' = Pn.put n := HP
        rw [← hp]
        cases h9 : 9 - k with
        | zero => rfl
        | succ j => rw [Pn.putF, if_pos (by omega)]
      have hlen : k + 1 = (Pn.put n).length := by
        have hpl : pre.length = k := HPL
        rw [← hfin]
        simp [hpl]
      have HF := Lib.hid hfin
      have HLN := Lib.hid hlen
      clear hfin hlen
      refine stop_out (wpList_app rfl (.tmp 18) (.tmp 21) _ rfl w.heap.size 5 i0 _ 1 1 Tryz.underlying32 hi0 hz0 hz1 hz2 rfl (by omega) w (hb.alloc hb.size _) (Nat.le_trans hb.size (by simp)) _ (N + k) (bts (l ++ pre)) rfl (hown.alloc _) (wr.heap.size + 1) _ 1 1 (bts [UInt8.ofNat n']) rfl hbox (bts_one _) (N + (Pn.put n).length) (bts (l ++ Pn.put n)) (by have h : k + 1 = (Pn.put n).length := HLN; omega) (by have h : pre ++ [UInt8.ofNat n'] = Pn.put n := HF; rw [← h]; simp [bts]) (by have := (Pn.put_len n).2; unfold maxLen; omega) (by have := (Pn.put_len n).2; omega) ?_)
      intro A3 c3 w3 hown3 hb3 _ hc3 hm3
      go_wp2
      go_ret
      exact ⟨A3, c3, rfl, hown3, hc3, hm3, hb3⟩
end Go.Proofs.YthepokgkfaocmaaGreatDoor

/-
  The walk of num.Take: the number that bytes begin with.
-/
namespace Go.Proofs.YthepokgkfaocmaaGreatDoor
open Go.RowKit

theorem and_low (x : UInt8) : bits .and .u8 (x.toNat : Int) 127 = ((x.toNat % 128 : Nat) : Int) := by
  have key : ∀ y : Fin 256, bits .and .u8 ((y.val : Nat) : Int) 127 = ((y.val % 128 : Nat) : Int) := by decide +kernel
  exact key ⟨x.toNat, x.toNat_lt⟩
theorem wrap64_nat (y : Nat) (h : y < 18446744073709551616) : IntKind.u64.wrap (y : Int) = (y : Int) := by
  rw [IntKind.wrap_u64]
  omega
theorem or_add (acc m k : Nat) (ha : acc < 2 ^ k) (hm : m * 2 ^ k < 18446744073709551616) (ha' : acc < 18446744073709551616) : bits .or .u64 (acc : Int) ((m * 2 ^ k : Nat) : Int) = ((acc + m * 2 ^ k : Nat) : Int) := by
  have h1 : ((BitVec.ofNat 64 acc).toNat : Int) = (acc : Int) := by rw [BitVec.toNat_ofNat, Nat.mod_eq_of_lt ha']
  have h2 : ((BitVec.ofNat 64 (m * 2 ^ k)).toNat : Int) = ((m * 2 ^ k : Nat) : Int) := by rw [BitVec.toNat_ofNat, Nat.mod_eq_of_lt hm]
  rw [← h1, ← h2, bits64_or, BitVec.toNat_or, BitVec.toNat_ofNat, BitVec.toNat_ofNat, Nat.mod_eq_of_lt ha', Nat.mod_eq_of_lt hm]
  congr 1
  rw [Nat.or_comm, Nat.mul_comm, ← Nat.two_pow_add_eq_or_of_lt ha]
  omega
theorem or_mix (acc : Nat) (x : UInt8) (k : Nat) (hk : k ≤ 9) (h9 : k = 9 → x.toNat ≤ 1) (ha : acc < 2 ^ (7 * k)) :
    bits .or .u64 (acc : Int) (IntKind.u64.wrap (IntKind.u64.wrap (bits .and .u8 (x.toNat : Int) 127) * 2 ^ (7 * k))) = ((acc + x.toNat % 128 * 2 ^ (7 * k) : Nat) : Int) ∧ acc + x.toNat % 128 * 2 ^ (7 * k) < 2 ^ (7 * (k + 1)) := by
  have hx : x.toNat % 128 < 128 := Nat.mod_lt _ (by decide)
  have hp : 2 ^ (7 * k) ≤ 2 ^ 63 := Nat.pow_le_pow_right (by decide) (by omega)
  have hm : x.toNat % 128 * 2 ^ (7 * k) < 18446744073709551616 := by
    by_cases e : k = 9
    · subst e
      have := h9 rfl
      omega
    · have h56 : 2 ^ (7 * k) ≤ 2 ^ 56 := Nat.pow_le_pow_right (by decide) (by omega)
      have : x.toNat % 128 * 2 ^ (7 * k) ≤ 127 * 2 ^ 56 := Nat.mul_le_mul (by omega) h56
      omega
  constructor
  · rw [and_low, wrap64_nat _ (by omega)]
    have e : ((x.toNat % 128 : Nat) : Int) * 2 ^ (7 * k) = ((x.toNat % 128 * 2 ^ (7 * k) : Nat) : Int) := by push_cast; rfl
    rw [e, wrap64_nat _ hm, or_add _ _ _ ha hm (by omega)]
  · rw [Pn.pow7]
    have : x.toNat % 128 * 2 ^ (7 * k) ≤ 127 * 2 ^ (7 * k) := Nat.mul_le_mul_right _ (by omega)
    omega

set_option maxRecDepth 100000 in
set_option maxHeartbeats 1000000 in
theorem take_any (A : Option Addr) (N c : Nat) (l : List UInt8) (w : World) (hN : N ≤ 1073741824) (hr : Row w.heap.size w A N 1 (bts l)) :
    Calls Tryz.prog 82 #[.slice A N c] w fun e w' => e = .returned (.tuple #[.int .u64 ((Pn.take l).1 : Int), .int .i64 ((Pn.take l).2.1 : Int), .int .i64 ((Pn.take l).2.2 : Int)]) ∧ w = w' := by
  have hln := hr.btlen
  go_enter Tryz.func82, Tryz.ntmps82
  go_wp2
  go_loop [2, 9] (fun x i => ∃ (k acc : Nat), k ≤ N ∧ k ≤ 9 ∧ acc < 2 ^ (7 * k) ∧ x = .int .u64 (acc : Int) ∧ i = .int .i64 (k : Int) ∧ Hid (Pn.take l = Pn.takeF k acc (l.drop k))) (fun _ i => N - (intOf i).toNat)
  case atStart => exact ⟨0, 0, Nat.zero_le _, Nat.zero_le _, by decide, rfl, rfl, Lib.hid (by rfl)⟩
  case round =>
    obtain ⟨k, acc, hk, hk9, hacc, rfl, rfl, hh⟩ := hrel
    by_cases hlt : k < N
    · obtain ⟨a, hl, rfl, _, hc⟩ := hr.bt hlt
      have hstep : Pn.take l = Pn.takeF k acc (l[k] :: l.drop (k + 1)) := by
        have h : Pn.take l = Pn.takeF k acc (l.drop k) := hh
        rw [h, List.drop_eq_getElem_cons hl]
      generalize l[k] = x at *
      have HS := Lib.hid hstep
      have HA := Lib.hid hacc
      clear hh hstep hacc
      have hx : x.toNat < 256 := x.toNat_lt
      by_cases b1 : (k = 9 ∧ 1 < x.toNat) ∨ (0 < k ∧ x.toNat = 0)
      · have hr3 : Pn.take l = (0, 0, 3) := by
          have h : Pn.take l = Pn.takeF k acc (x :: l.drop (k + 1)) := HS
          rw [h, Pn.takeF, if_pos b1]
        have HR := Lib.hid hr3
        clear hr3
        have fin : Ending.returned (Value.tuple #[Value.int IntKind.u64 0, Value.int IntKind.i64 0, Value.int IntKind.i64 3]) = .returned (.tuple #[.int .u64 ((Pn.take l).1 : Int), .int .i64 ((Pn.take l).2.1 : Int), .int .i64 ((Pn.take l).2.2 : Int)]) := by
          have h : Pn.take l = (0, 0, 3) := HR
          rw [h]
          rfl
        have FIN := Lib.hid fin
        clear fin
        rcases b1 with ⟨b1, b2⟩ | ⟨b1, b2⟩
        · subst b1
          have hc9 : w.cell? { block := a.block, off := a.off + 9 } = some (.int .u8 (x.toNat : Int)) := by simpa [Addr.add] using hc
          have c2 : ((1 : Int) < (x.toNat : Int)) := by omega
          go_wp2
          exact bodyPost_ret (v := .tuple #[.int .u64 0, .int .i64 0, .int .i64 3]) (by simp [results, go_sem]) rfl ⟨FIN, rfl⟩
        · by_cases b3 : k = 9
          · subst b3
            have hc9 : w.cell? { block := a.block, off := a.off + 9 } = some (.int .u8 (x.toNat : Int)) := by simpa [Addr.add] using hc
            have c2 : ((1 : Int) < (x.toNat : Int)) = False := by simp; omega
            have c4 : ((x.toNat : Int) == 0) = true := by simp; omega
            go_wp2
            exact bodyPost_ret (v := .tuple #[.int .u64 0, .int .i64 0, .int .i64 3]) (by simp [results, go_sem]) rfl ⟨FIN, rfl⟩
          · have c1 : ((k : Int) == 9) = false := by simp; omega
            have c3 : ((0 : Int) < (k : Int)) := by omega
            have c4 : ((x.toNat : Int) == 0) = true := by simp; omega
            go_wp2
            exact bodyPost_ret (v := .tuple #[.int .u64 0, .int .i64 0, .int .i64 3]) (by simp [results, go_sem]) rfl ⟨FIN, rfl⟩
      · obtain ⟨hm1, hm2⟩ := or_mix acc x k hk9 (fun e => by omega) HA
        generalize hR : acc + x.toNat % 128 * 2 ^ (7 * k) = R at hm1 hm2
        have HM2 := Lib.hid hm2
        have HR := Lib.hid hR
        clear hm2 hR
        by_cases b3 : x.toNat < 128
        · have c5 : ((x.toNat : Int) < 128) := by omega
          have hr3 : Pn.take l = (R, k + 1, 0) := by
            have hR : acc + x.toNat % 128 * 2 ^ (7 * k) = R := HR
            have h : Pn.take l = Pn.takeF k acc (x :: l.drop (k + 1)) := HS
            rw [h, Pn.takeF, if_neg b1, if_pos b3, ← hR, Nat.mod_eq_of_lt b3]
          have fin : Ending.returned (Value.tuple #[Value.int IntKind.u64 ((R : Nat) : Int), Value.int IntKind.i64 ((k : Int) + 1), Value.int IntKind.i64 0]) = .returned (.tuple #[.int .u64 ((Pn.take l).1 : Int), .int .i64 ((Pn.take l).2.1 : Int), .int .i64 ((Pn.take l).2.2 : Int)]) := by
            rw [hr3]
            rfl
          have FIN := Lib.hid fin
          clear fin hr3
          by_cases d1 : k = 9
          · subst d1
            have hc9 : w.cell? { block := a.block, off := a.off + 9 } = some (.int .u8 (x.toNat : Int)) := by simpa [Addr.add] using hc
            have hm9 : bits .or .u64 (acc : Int) (IntKind.u64.wrap (IntKind.u64.wrap (bits .and .u8 (x.toNat : Int) 127) * 9223372036854775808)) = (R : Int) := hm1
            have c2 : ((1 : Int) < (x.toNat : Int)) = False := by simp; omega
            have c4 : ((x.toNat : Int) == 0) = false := by simp; omega
            go_wp2
            refine bodyPost_ret (v := .tuple #[.int .u64 ((R : Nat) : Int), .int .i64 10, .int .i64 0]) (by simp [results, go_sem]) rfl ⟨FIN, rfl⟩
          · have c1 : ((k : Int) == 9) = false := by simp; omega
            by_cases d2 : 0 < k
            · have c3 : ((0 : Int) < (k : Int)) := by omega
              have c4 : ((x.toNat : Int) == 0) = false := by simp; omega
              go_wp2
              refine bodyPost_ret (v := .tuple #[.int .u64 ((R : Nat) : Int), .int .i64 ((k : Int) + 1), .int .i64 0]) (by simp [results, go_sem]) rfl ⟨FIN, rfl⟩
            · have c3 : ((0 : Int) < (k : Int)) = False := by simp; omega
              go_wp2
              refine bodyPost_ret (v := .tuple #[.int .u64 ((R : Nat) : Int), .int .i64 ((k : Int) + 1), .int .i64 0]) (by simp [results, go_sem]) rfl ⟨FIN, rfl⟩
        · have c5 : ((x.toNat : Int) < 128) = False := by simp; omega
          have c4 : ((x.toNat : Int) == 0) = false := by simp; omega
          have d1 : k ≠ 9 := by omega
          have c1 : ((k : Int) == 9) = false := by simp; omega
          have hnx : Pn.take l = Pn.takeF (k + 1) R (l.drop (k + 1)) := by
            have hR : acc + x.toNat % 128 * 2 ^ (7 * k) = R := HR
            have h : Pn.take l = Pn.takeF k acc (x :: l.drop (k + 1)) := HS
            rw [h, Pn.takeF, if_neg b1, if_neg b3, ← hR, show x.toNat % 128 = x.toNat - 128 from by omega]
          have HN := Lib.hid hnx
          clear hnx
          by_cases d2 : 0 < k
          · have c3 : ((0 : Int) < (k : Int)) := by omega
            go_wp2
            go_round
            case rel => exact ⟨k + 1, R, by omega, by omega, HM2, rfl, by go_num, HN⟩
            case measure => simp [intOf]; omega
          · have c3 : ((0 : Int) < (k : Int)) = False := by simp; omega
            go_wp2
            go_round
            case rel => exact ⟨k + 1, R, by omega, by omega, HM2, rfl, by go_num, HN⟩
            case measure => simp [intOf]; omega
    · have hr3 : Pn.take l = (0, 0, 4) := by
        have h : Pn.take l = Pn.takeF k acc (l.drop k) := hh
        rw [h, List.drop_eq_nil_of_le (by omega)]
        rfl
      have fin : Ending.returned (Value.tuple #[Value.int IntKind.u64 0, Value.int IntKind.i64 0, Value.int IntKind.i64 4]) = .returned (.tuple #[.int .u64 ((Pn.take l).1 : Int), .int .i64 ((Pn.take l).2.1 : Int), .int .i64 ((Pn.take l).2.2 : Int)]) := by
        rw [hr3]
        rfl
      have FIN := Lib.hid fin
      clear fin hr3
      go_wp2
      exact bodyPost_ret (v := .tuple #[.int .u64 0, .int .i64 0, .int .i64 4]) (by simp [results, go_sem]) rfl ⟨FIN, rfl⟩
end Go.Proofs.YthepokgkfaocmaaGreatDoor

/-
  The walks of num.List and num.Unlist: numbers behind one another, with how many ahead.
-/
namespace Go.Proofs.YthepokgkfaocmaaGreatDoor
open Go.RowKit

/-- Numbers as cells. -/
def u64v (ns : List Nat) : List Value := ns.map fun n : Nat => .int .u64 (n : Int)
theorem u64v_one (ns : List Nat) : ∀ u ∈ u64v ns, u.oneCell' = true := by
  intro u hu
  obtain ⟨n, _, rfl⟩ := List.mem_map.1 hu
  rfl
theorem u64v_get (ns : List Nat) (k : Nat) : (u64v ns)[k]? = (ns[k]?).map fun n : Nat => .int .u64 (n : Int) := by simp [u64v]
theorem Row.un {B n : Nat} {w : World} {A : Option Addr} {ns : List Nat} (h : Row B w A n 1 (u64v ns)) {k : Nat} (hk : k < n) : ∃ a, ∃ hl : k < ns.length, A = some a ∧ a.block < B ∧ w.cell? (a.add k) = some (.int .u64 ((ns[k] : Nat) : Int)) := by
  obtain ⟨a, v, e, hb, hv, hc⟩ := h.at1 hk
  have hl : k < ns.length := by
    have := h.len
    simp [u64v] at this
    omega
  rw [u64v_get, List.getElem?_eq_getElem hl] at hv
  injection hv with hv
  subst hv
  exact ⟨a, hl, e, hb, hc⟩
theorem Row.unlen {B n : Nat} {w : World} {A : Option Addr} {ns : List Nat} (h : Row B w A n 1 (u64v ns)) : ns.length = n := by
  have := h.len
  simp [u64v] at this
  omega
theorem flat_put_len (ns : List Nat) : (ns.flatMap Pn.put).length ≤ ns.length * 10 := by
  induction ns with
  | nil => simp
  | cons n r ih =>
    have := (Pn.put_len n).2
    simp only [List.flatMap_cons, List.length_append, List.length_cons]
    omega

set_option maxRecDepth 100000 in
set_option maxHeartbeats 1000000 in
theorem list_any (A : Option Addr) (N c : Nat) (l : List UInt8) (L : Option Addr) (m d : Nat) (ns : List Nat) (w : World) (hN : N ≤ 1000000) (hm : m ≤ 1000) (hr : Row w.heap.size w A N 1 (bts l)) (hq : Row w.heap.size w L m 1 (u64v ns)) (hns : ∀ n ∈ ns, n < 18446744073709551616) :
    Calls Tryz.prog 73 #[.slice A N c, .slice L m d] w fun e w' => ∃ A' M c', e = .returned (.slice A' M c') ∧
      w'.ownsRow w.heap.size 5 1 (.slice A' M c') M (bts (l ++ Pn.list ns)) ∧ M ≤ c' ∧ c' ≤ maxLen ∧ Below w.heap.size w w' := by
  have hln := hr.btlen
  have hmn := hq.unlen
  have hcv : ∀ w, (convert 3 29 (.int .i64 (m : Int))).run Tryz.prog w = .ok (.int .u64 (m : Int)) w := by
    intro w
    have : (m : Int) % 18446744073709551616 = (m : Int) := by omega
    simp [go_sem, convert, IntKind.wrap_u64, this]
  go_enter Tryz.func73, Tryz.ntmps73
  go_wp2_with fail
  refine (put_any A N c l m (by omega) w (by omega) hr).mono ?_
  rintro e w1 ⟨A1, c1, rfl, ho1, hc1, hm1, hb1⟩
  obtain ⟨M1, hM1⟩ : ∃ M1, M1 = N + (Pn.put m).length := ⟨_, rfl⟩
  have hM1b : M1 ≤ N + 10 := by have := (Pn.put_len m).2; omega
  rw [← hM1] at ho1 hc1 ⊢
  have HM := Lib.hid hM1
  clear hM1
  go_wp2
  go_loopw [5, 15] (fun o i wr => ∃ (k : Nat) (A' : Option Addr) (M c' : Nat), k ≤ m ∧ o = .slice A' M c' ∧ i = .int .i64 (k : Int) ∧ wr.ownsRow w.heap.size 5 1 (.slice A' M c') M (bts (l ++ (Pn.put m ++ (ns.take k).flatMap Pn.put))) ∧ M ≤ c' ∧ c' ≤ maxLen ∧ Below w.heap.size w wr) (fun _ i _ => m - (intOf i).toNat)
  case atStart => exact ⟨0, A1, M1, c1, Nat.zero_le _, rfl, rfl, by simpa using ho1, hc1, hm1, hb1⟩
  case round =>
    obtain ⟨k, A', M, c', hk, rfl, rfl, hown, hc', hm', hb⟩ := hrel
    have hML : M = N + ((Pn.put m).length + ((ns.take k).flatMap Pn.put).length) := by
      have h1 := hown.1
      rw [bts_length] at h1
      simp only [List.length_append] at h1
      omega
    have hMB : M ≤ N + 10 + 10000 := by
      have h1 := flat_put_len (ns.take k)
      have h2 := (Pn.put_len m).2
      have h3 := List.length_take_le k ns
      omega
    have HML := Lib.hid hML
    clear hML
    by_cases hlt : k < m
    · obtain ⟨a, hl, rfl, hab, hc⟩ := (hq.below hb).un hlt
      have htk : ns.take (k + 1) = ns.take k ++ [ns[k]] := (List.take_append_getElem hl).symm
      have hnk := hns ns[k] (List.getElem_mem hl)
      generalize ns[k] = x at *
      have HT := Lib.hid htk
      clear htk
      go_wp2_with fail
      refine (put_any A' M c' (l ++ (Pn.put m ++ (ns.take k).flatMap Pn.put)) x hnk wr (by omega) (Row.own hown)).mono ?_
      rintro e w2 ⟨A2, c2, rfl, ho2, hc2, hm2, hb2⟩
      go_wp2
      go_roundw
      case rel =>
        refine ⟨k + 1, A2, M + (Pn.put x).length, c2, by omega, rfl, by go_num, ?_, hc2, hm2, later_ hb hb2⟩
        have ht : ns.take (k + 1) = ns.take k ++ [x] := HT
        rw [ht]
        have := own_base ho2 hb.size
        simpa [List.append_assoc] using this
      case measure => simp [intOf]; omega
    · have hkm : k = m := by omega
      have hfin : l ++ (Pn.put m ++ (ns.take k).flatMap Pn.put) = l ++ Pn.list ns := by
        rw [hkm, List.take_of_length_le (by omega), Pn.list, hmn]
      rw [hfin] at hown
      go_wp2
      go_ret
      exact ⟨A', M, c', rfl, hown, hc', hm', hb⟩
end Go.Proofs.YthepokgkfaocmaaGreatDoor

/-
  Records one behind the other, in plain Lean: what is put is taken, what was cut is torn.
-/
namespace Go.Proofs.YthepokgkfaocmaaGreatDoor

namespace Fr
def head (k n : Nat) : List UInt8 := [UInt8.ofNat k, UInt8.ofNat (n / 65536), UInt8.ofNat (n / 256), UInt8.ofNat n]
/-- A record. -/
def put (k : Nat) (b : List UInt8) : List UInt8 := Crc.sealed (head k b.length) ++ Crc.sealed b
def u (l : List UInt8) (i : Nat) : Nat := (l.getD i 0).toNat
def size (l : List UInt8) : Nat := u l 1 * 65536 + u l 2 * 256 + u l 3
/-- The record that stands at a place: kind, body, what is next, error. -/
def take (l : List UInt8) (p : Nat) : Nat × List UInt8 × Nat × Nat :=
  if l.length - p < 8 then (0, [], 0, 4)
  else if Crc.sealed ((l.drop p).take 4) ≠ (l.drop p).take 8 then (0, [], 0, 5)
  else if u (l.drop p) 0 < 1 ∨ 100 < u (l.drop p) 0 ∨ 60000 < size (l.drop p) then (0, [], 0, 3)
  else if l.length - p - 8 < size (l.drop p) + 4 then (0, [], 0, 4)
  else if Crc.sealed ((l.drop (p + 8)).take (size (l.drop p))) ≠ (l.drop (p + 8)).take (size (l.drop p) + 4) then (0, [], 0, 5)
  else (u (l.drop p) 0, (l.drop (p + 8)).take (size (l.drop p)), p + 8 + size (l.drop p) + 4, 0)
/-- All records from a place on, so many at most, behind what was found. -/
def splitF : Nat → List UInt8 → Nat → List Nat → List (List UInt8) → List Nat × List (List UInt8) × Nat × Nat
  | 0, _, e, ks, bs => (ks, bs, e, 0)
  | f + 1, l, e, ks, bs => if e < l.length then
      (if (take l e).2.2.2 = 0 then splitF f l (take l e).2.2.1 (ks ++ [(take l e).1]) (bs ++ [(take l e).2.1]) else (ks, bs, e, (take l e).2.2.2))
    else (ks, bs, e, 0)
def split (l : List UInt8) : List Nat × List (List UInt8) × Nat × Nat := splitF (l.length + 1) l 0 [] []

theorem four_length (x : BitVec 32) : (Crc.four x).length = 4 := rfl
theorem sealed_len (l : List UInt8) : (Crc.sealed l).length = l.length + 4 := by simp [Crc.sealed, four_length]
theorem put_length (k : Nat) (b : List UInt8) : (put k b).length = b.length + 12 := by simp [put, sealed_len, head]; omega
theorem u8n (n : Nat) (h : n < 256) : (UInt8.ofNat n).toNat = n := by
  rw [UInt8.toNat_ofNat']
  omega
theorem take_next {l : List UInt8} {p : Nat} (h : (take l p).2.2.2 = 0) : p + 12 ≤ (take l p).2.2.1 ∧ (take l p).2.2.1 ≤ l.length := by
  unfold take at h ⊢
  split at h
  · simp at h
  · split at h
    · simp at h
    · split at h
      · simp at h
      · split at h
        · simp at h
        · split at h
          · simp at h
          · rename_i h1 h2 h3 h4 h5
            rw [if_neg h1, if_neg h2, if_neg h3, if_neg h4, if_neg h5]
            simp only
            omega

theorem head_parts (k n : Nat) (r : List UInt8) (hk : k < 256) (hn : n ≤ 60000) : u (head k n ++ r) 0 = k ∧ size (head k n ++ r) = n := by
  constructor
  · simp [u, head, u8n k hk]
  · simp only [size, u, head, List.cons_append, List.nil_append, List.getD_cons_zero, List.getD_cons_succ, UInt8.toNat_ofNat']
    omega
theorem sealed_prefix (l r : List UInt8) : (Crc.sealed l ++ r).take l.length = l := by
  simp [Crc.sealed, List.append_assoc]
theorem sealed_whole (l r : List UInt8) : (Crc.sealed l ++ r).take (l.length + 4) = Crc.sealed l := by
  rw [← sealed_len, List.take_left]
theorem put_split (k : Nat) (b r : List UInt8) : put k b ++ r = head k b.length ++ (Crc.four (Crc.sum (head k b.length)) ++ (Crc.sealed b ++ r)) := by
  simp [put, Crc.sealed]
theorem put_drop (k : Nat) (b r : List UInt8) : (put k b ++ r).drop 8 = Crc.sealed b ++ r := by
  have e : put k b ++ r = Crc.sealed (head k b.length) ++ (Crc.sealed b ++ r) := by simp [put]
  have h8 : (Crc.sealed (head k b.length)).length = 8 := by rw [sealed_len]; rfl
  rw [e, ← h8, List.drop_left]
/-- What was put is taken. -/
theorem take_put (a : List UInt8) (k : Nat) (b r : List UInt8) (h1 : 1 ≤ k) (h2 : k ≤ 100) (hb : b.length ≤ 60000) : take (a ++ (put k b ++ r)) a.length = (k, b, a.length + (put k b).length, 0) := by
  have hd : (a ++ (put k b ++ r)).drop a.length = put k b ++ r := List.drop_left
  have hd8 : (a ++ (put k b ++ r)).drop (a.length + 8) = Crc.sealed b ++ r := by rw [← List.drop_drop, hd, put_drop]
  have hl : (a ++ (put k b ++ r)).length - a.length = b.length + 12 + r.length := by simp [put_length]
  obtain ⟨e0, e1⟩ := head_parts k b.length (Crc.four (Crc.sum (head k b.length)) ++ (Crc.sealed b ++ r)) (by omega) hb
  rw [← put_split] at e0 e1
  have e4 : (put k b ++ r).take 4 = head k b.length := by
    have := sealed_prefix (head k b.length) (Crc.sealed b ++ r)
    rw [show put k b ++ r = Crc.sealed (head k b.length) ++ (Crc.sealed b ++ r) from by simp [put]]
    exact this
  have e8 : (put k b ++ r).take 8 = Crc.sealed (head k b.length) := by
    have := sealed_whole (head k b.length) (Crc.sealed b ++ r)
    rw [show put k b ++ r = Crc.sealed (head k b.length) ++ (Crc.sealed b ++ r) from by simp [put]]
    exact this
  unfold take
  rw [hl, hd, hd8, e0, e1, e4, e8, sealed_prefix, sealed_whole, if_neg (by omega), if_neg (fun h => h rfl), if_neg (by omega), if_neg (by omega), if_neg (fun h => h rfl), put_length]
  rw [show a.length + 8 + b.length + 4 = a.length + (b.length + 12) from by omega]
/-- A record that was cut is torn. -/
theorem take_cut (a : List UInt8) (k : Nat) (b : List UInt8) (n : Nat) (h1 : 1 ≤ k) (h2 : k ≤ 100) (hb : b.length ≤ 60000) (hn : n < (put k b).length) : take (a ++ (put k b).take n) a.length = (0, [], 0, 4) := by
  have hd : (a ++ (put k b).take n).drop a.length = (put k b).take n := List.drop_left
  have hl : (a ++ (put k b).take n).length - a.length = n := by
    rw [List.length_append, List.length_take]
    omega
  unfold take
  rw [hl, hd]
  split
  · rfl
  · rename_i h8
    have e4 : ((put k b).take n).take 4 = head k b.length := by
      rw [List.take_take, show min 4 n = 4 from by omega]
      have := sealed_prefix (head k b.length) (Crc.sealed b)
      exact this
    have e8 : ((put k b).take n).take 8 = Crc.sealed (head k b.length) := by
      rw [List.take_take, show min 8 n = 8 from by omega]
      have := sealed_whole (head k b.length) (Crc.sealed b)
      exact this
    obtain ⟨e0, e1⟩ := head_parts k b.length (((put k b).take n).drop 4) (by omega) hb
    have e5 : head k b.length ++ ((put k b).take n).drop 4 = (put k b).take n := by rw [← e4]; exact List.take_append_drop 4 _
    rw [e5] at e0 e1
    rw [e0, e1, e4, e8, if_neg (fun h => h rfl), if_neg (by omega), if_pos (by rw [put_length] at hn; omega)]

/-- The records of a list of bodies. -/
def all (k : Nat) (bs : List (List UInt8)) : List UInt8 := bs.flatMap (put k)
theorem splitF_all (k : Nat) (h1 : 1 ≤ k) (h2 : k ≤ 100) (tail : List UInt8) : ∀ (bs : List (List UInt8)) (f : Nat) (a : List UInt8) (ks : List Nat) (os : List (List UInt8)), (∀ b ∈ bs, b.length ≤ 60000) → bs.length ≤ f →
    splitF f (a ++ (all k bs ++ tail)) a.length ks os = splitF (f - bs.length) (a ++ (all k bs ++ tail)) (a.length + (all k bs).length) (ks ++ List.replicate bs.length k) (os ++ bs)
  | [], f, a, ks, os, _, _ => by simp [all]
  | b :: bs, f, a, ks, os, hb, hf => by
    obtain ⟨f, rfl⟩ : ∃ g, f = g + 1 := ⟨f - 1, by simp at hf; omega⟩
    have e : a ++ (all k (b :: bs) ++ tail) = a ++ (put k b ++ (all k bs ++ tail)) := by simp [all]
    have ht := take_put a k b (all k bs ++ tail) h1 h2 (hb b (by simp))
    have hlt : a.length < (a ++ (put k b ++ (all k bs ++ tail))).length := by simp [put_length]; omega
    have e2 : a ++ (put k b ++ (all k bs ++ tail)) = (a ++ put k b) ++ (all k bs ++ tail) := by simp
    rw [e, splitF, if_pos hlt, ht]
    simp only [if_true]
    rw [e2, show a.length + (put k b).length = (a ++ put k b).length from by simp, splitF_all k h1 h2 tail bs f (a ++ put k b) _ _ (fun x hx => hb x (by simp [hx])) (by simp at hf; omega)]
    have e3 : (a ++ put k b).length + (all k bs).length = a.length + (all k (b :: bs)).length := by simp [all]; omega
    rw [e3]
    simp [List.replicate_succ]
/-- Records, and a torn one behind them. -/
theorem split_all (k : Nat) (h1 : 1 ≤ k) (h2 : k ≤ 100) (bs : List (List UInt8)) (hb : ∀ b ∈ bs, b.length ≤ 60000) : split (all k bs) = (List.replicate bs.length k, bs, (all k bs).length, 0) := by
  have hl : bs.length ≤ (all k bs).length := by
    induction bs with
    | nil => simp
    | cons b bs ih =>
      have := ih (fun x hx => hb x (by simp [hx]))
      simp only [all, List.flatMap_cons, List.length_append, List.length_cons, put_length] at this ⊢
      omega
  have h := splitF_all k h1 h2 [] bs ((all k bs).length + 1) [] [] [] hb (by omega)
  simp only [List.nil_append, List.append_nil, List.length_nil, Nat.zero_add] at h
  unfold split
  rw [h]
  obtain ⟨g, hg⟩ : ∃ g, (all k bs).length + 1 - bs.length = g + 1 := ⟨(all k bs).length - bs.length, by omega⟩
  rw [hg, splitF, if_neg (by omega)]
theorem split_cut (k : Nat) (h1 : 1 ≤ k) (h2 : k ≤ 100) (bs : List (List UInt8)) (hb : ∀ b ∈ bs, b.length ≤ 60000) (b : List UInt8) (hbl : b.length ≤ 60000) (n : Nat) (hn0 : 0 < n) (hn : n < (put k b).length) :
    split (all k bs ++ (put k b).take n) = (List.replicate bs.length k, bs, (all k bs).length, 4) := by
  have hl : bs.length ≤ (all k bs).length := by
    clear hn hn0
    induction bs with
    | nil => simp
    | cons b bs ih =>
      have := ih (fun x hx => hb x (by simp [hx]))
      simp only [all, List.flatMap_cons, List.length_append, List.length_cons, put_length] at this ⊢
      omega
  have h := splitF_all k h1 h2 ((put k b).take n) bs ((all k bs ++ (put k b).take n).length + 1) [] [] [] hb (by simp; omega)
  simp only [List.nil_append, List.length_nil, Nat.zero_add] at h
  unfold split
  rw [h]
  obtain ⟨g, hg⟩ : ∃ g, (all k bs ++ (put k b).take n).length + 1 - bs.length = g + 1 := ⟨(all k bs ++ (put k b).take n).length - bs.length, by simp; omega⟩
  rw [hg, splitF, if_pos (by simp; omega), take_cut (all k bs) k b n h1 h2 hbl hn]
  simp
end Fr
end Go.Proofs.YthepokgkfaocmaaGreatDoor

/-
  A node's View and its changes, in plain Lean: what may be, what a change makes, and a change's bytes.
-/
namespace Go.Proofs.YthepokgkfaocmaaGreatDoor

/-- A View. A file is its level and its number. -/
structure Vw where
  log : Int
  files : List (Int × Int)
  floor : Nat
  cert : Nat
  at_ : Nat
  lease : Nat
/-- A change. -/
structure Ed where
  drop : List Int
  add : List (Int × Int)
  log : Int
  floor : Nat
  cert : Nat
  at_ : Nat
  lease : Nat

def isNum (n : Int) : Bool := decide (1 ≤ n) && decide (n ≤ 1073741824)
def isFile (f : Int × Int) : Bool := isNum f.2 && (decide (0 ≤ f.1) && decide (f.1 ≤ 3))
def four4 (a b c d : Nat) : Bool := decide (a ≤ 281474976710656) && decide (b ≤ 281474976710656) && decide (c ≤ 281474976710656) && decide (d ≤ 281474976710656)
def apart : List (Int × Int) → Bool
  | [] => true
  | f :: r => r.all (fun g => !(g.2 == f.2)) && apart r
def Vw.ok (v : Vw) : Bool := isNum v.log && decide (v.files.length ≤ 40) && four4 v.floor v.cert v.at_ v.lease && v.files.all isFile && apart v.files
def Ed.may (e : Ed) : Bool := decide (e.drop.length ≤ 40) && decide (e.add.length ≤ 40) && (decide (0 ≤ e.log) && decide (e.log ≤ 1073741824)) && four4 e.floor e.cert e.at_ e.lease && e.drop.all isNum && e.add.all isFile
def dropAll : List Int → List (Int × Int) → Option (List (Int × Int))
  | [], fs => some fs
  | n :: r, fs => if fs.any (fun f => f.2 == n) then dropAll r (fs.eraseP fun f => f.2 == n) else none
def orElse (a b : Nat) : Nat := if a = 0 then b else a
/-- A View with a change. -/
def Vw.app (v : Vw) (e : Ed) : Option Vw := match dropAll e.drop v.files with
  | none => none
  | some fs => if (Vw.ok { log := if e.log = 0 then v.log else e.log, files := fs ++ e.add, floor := orElse e.floor v.floor, cert := orElse e.cert v.cert, at_ := orElse e.at_ v.at_, lease := orElse e.lease v.lease }) then
      some { log := if e.log = 0 then v.log else e.log, files := fs ++ e.add, floor := orElse e.floor v.floor, cert := orElse e.cert v.cert, at_ := orElse e.at_ v.at_, lease := orElse e.lease v.lease } else none
/-- Changes, one behind the other. -/
def Vw.run (v : Vw) : List Ed → Option Vw
  | [] => some v
  | e :: r => match v.app e with
    | none => none
    | some w => w.run r
def Vw.none_ : Vw := ⟨0, [], 0, 0, 0, 0⟩
/-- The change that makes a View of nothing. -/
def Vw.whole (v : Vw) : Ed := ⟨[], v.files, v.log, v.floor, v.cert, v.at_, v.lease⟩
/-- A change's bytes. -/
def Ed.bytes (e : Ed) : List UInt8 := Pn.list (e.drop.map Int.toNat) ++ (Pn.put e.add.length ++ (e.add.flatMap (fun f => Pn.put f.1.toNat ++ Pn.put f.2.toNat) ++
  (Pn.put e.log.toNat ++ (Pn.put e.floor ++ (Pn.put e.cert ++ (Pn.put e.at_ ++ Pn.put e.lease))))))
/-- A change's record. -/
def Ed.rec_ (e : Ed) : List UInt8 := Fr.put 6 e.bytes
/-- A change that speaks of no files. -/
def Ed.bare (e : Ed) : Prop := e.drop = [] ∧ e.add = []

theorem Vw.run_snoc (v : Vw) (e : Ed) : ∀ es, v.run (es ++ [e]) = (v.run es).bind fun w => w.app e := by
  intro es
  induction es generalizing v with
  | nil =>
    simp only [List.nil_append, Vw.run, Option.bind]
    cases v.app e <;> rfl
  | cons x r ih =>
    simp only [List.cons_append, Vw.run]
    cases v.app x with
    | none => rfl
    | some w => exact ih w
theorem flat_len {α : Type} (f : α → List UInt8) (n : Nat) : ∀ l : List α, (∀ x ∈ l, (f x).length ≤ n) → (l.flatMap f).length ≤ l.length * n
  | [], _ => by simp
  | x :: r, h => by
    have h1 := h x (by simp)
    have h2 := flat_len f n r (fun y hy => h y (by simp [hy]))
    simp only [List.flatMap_cons, List.length_append, List.length_cons, Nat.add_mul]
    omega
theorem Ed.bytes_len (e : Ed) (h : e.may = true) : e.bytes.length ≤ 2000 := by
  simp only [Ed.may, Bool.and_eq_true, decide_eq_true_eq] at h
  have h1 := flat_len Pn.put 10 (e.drop.map Int.toNat) (fun x _ => (Pn.put_len x).2)
  have h2 := flat_len (fun f : Int × Int => Pn.put f.1.toNat ++ Pn.put f.2.toNat) 20 e.add (fun f _ => by
    have := (Pn.put_len f.1.toNat).2
    have := (Pn.put_len f.2.toNat).2
    simp only [List.length_append]
    omega)
  have a1 := (Pn.put_len (e.drop.map Int.toNat).length).2
  have a2 := (Pn.put_len e.add.length).2
  have a3 := (Pn.put_len e.log.toNat).2
  have a4 := (Pn.put_len e.floor).2
  have a5 := (Pn.put_len e.cert).2
  have a6 := (Pn.put_len e.at_).2
  have a7 := (Pn.put_len e.lease).2
  have e1 : (e.drop.map Int.toNat).length = e.drop.length := by simp
  simp only [Ed.bytes, Pn.list, List.length_append]
  rw [e1] at h1
  omega
end Go.Proofs.YthepokgkfaocmaaGreatDoor

/-
  The walks of slices.Concat (texts, one behind the other, in memory of its own) and of frame.Put.
-/
namespace Go.Proofs.YthepokgkfaocmaaGreatDoor
open Go.RowKit Go.Shelf

theorem grow_any (n : Nat) (hn : n ≤ 1073741824) (w : World) :
    Calls Tryz.prog 121 #[.slice none 0 0, .int .i64 (n : Int)] w fun e w' => ∃ A c, e = .returned (.slice A 0 c) ∧ w'.ownsRow w.heap.size 5 1 (.slice A 0 c) 0 [] ∧ Below w.heap.size w w' := by
  obtain ⟨i0, hi0, hz0, hz1, hz2⟩ := info_parts info_u8
  rcases Nat.eq_zero_or_pos n with h0 | h0
  · subst h0
    have h := Any8.slices_Grow_room Tryz.grow121 none 0 0 0 w (Nat.le_refl _) (by omega) (by omega) (by omega)
    refine Calls.mono h ?_
    rintro e w' ⟨rfl, rfl⟩
    exact ⟨none, 0, rfl, World.ownsRow_nil _ _ _ _, Below.refl _ _⟩
  · have h := Any8.slices_Grow_grow Tryz.grow121 i0 (.int .u8 0) hi0 hz0 (by omega) none 0 0 n [] w (Nat.le_refl _) (by omega) (by rw [hz2]; omega) (by omega) (by simp) (fun _ => rfl) (fun a h => by cases h)
    refine Calls.mono h ?_
    rintro e w' ⟨rfl, rfl⟩
    have hg := grownCap_ge w (0 + n) 0 5
    have hg2 := grownCap_le_maxLen w (0 + n) 0 5 (by unfold maxLen; omega)
    refine ⟨_, _, rfl, ⟨by simp, .inr ⟨w.heap.size, _, _, rfl, Nat.le_refl _, heap_alloc_new w.drew _, Nat.zero_le _, hg2, ?_, by simp⟩⟩, ((Below.refl w.heap.size w).drew).alloc (Nat.le_refl _) _⟩
    change _ = grownCap w (0 + n) 0 5 * 1
    have hc : (Value.int IntKind.u8 0).cells.size = 1 := rfl
    simp only [Array.size_append, Builtin.zeroCells, Array.size_map, Array.size_range, hc]
    change 0 + (0 + n - 0) * 1 + (grownCap w (0 + n) 0 5 - (0 + n)) * 1 = _
    omega

theorem flat_take {ls : List (List UInt8)} {k : Nat} (hl : k < ls.length) : (ls.take (k + 1)).flatten = (ls.take k).flatten ++ ls[k] := by
  have h := (List.take_append_getElem hl).symm
  rw [h, List.flatten_append]
  simp
theorem flat_le {ls : List (List UInt8)} (k : Nat) : (ls.take k).flatten.length ≤ ls.flatten.length := by
  conv => rhs; rw [← List.take_append_drop k ls, List.flatten_append, List.length_append]
  omega

set_option maxRecDepth 100000 in
set_option maxHeartbeats 1000000 in
theorem concat_any (P : Option Addr) (n c : Nat) (ls : List (List UInt8)) (w : World) (hn : n ≤ 1073741824) (hbig : ls.flatten.length ≤ 1073741824) (hr : Rows2 w.heap.size w P n ls) :
    Calls Tryz.prog 98 #[.slice P n c] w fun e w' => ∃ A' c', e = .returned (.slice A' ls.flatten.length c') ∧
      w'.ownsRow w.heap.size 5 1 (.slice A' ls.flatten.length c') ls.flatten.length (bts ls.flatten) ∧ ls.flatten.length ≤ c' ∧ c' ≤ maxLen ∧ Below w.heap.size w w' := by
  obtain ⟨i0, hi0, hz0, hz1, hz2⟩ := info_parts info_u8
  have hlen : ls.length = n := by obtain ⟨_, _, h, _⟩ := hr; exact h
  obtain ⟨F, hF⟩ : ∃ F, F = ls.flatten.length := ⟨_, rfl⟩
  have HF := Lib.hid hF
  have HB := Lib.hid hbig
  rw [← hF] at hbig ⊢
  clear hF
  go_enter Tryz.func98, Tryz.ntmps98
  go_wp2
  go_loop [3, 11] (fun x i => ∃ k : Nat, k ≤ n ∧ i = .int .i64 (k : Int) ∧ x = .int .i64 (((ls.take k).flatten.length : Nat) : Int)) (fun _ i => n - (intOf i).toNat)
  case atStart => exact ⟨0, Nat.zero_le _, rfl, rfl⟩
  case round =>
    obtain ⟨k, hk, rfl, rfl⟩ := hrel
    by_cases hlt : k < n
    · obtain ⟨a, A, k', c', hl, rfl, _, hc, hkc, hcm, hr2⟩ := hr.at_ hlt
      have ht := flat_take hl
      have hb1 := flat_le (ls := ls) (k + 1)
      have e1 : (ls.take (k + 1)).flatten.length = (ls.take k).flatten.length + k' := by rw [ht, List.length_append, hr2.btlen]
      have hb2 : (ls.take k).flatten.length + k' ≤ 1073741824 := by
        have h : ls.flatten.length ≤ 1073741824 := HB
        omega
      have E1 := Lib.hid e1
      clear ht hb1 e1
      generalize (ls.take k).flatten.length = L at *
      have hge : ((L : Int) + (k' : Int) < 0) = False := by simp; omega
      go_wp2
      go_round
      case rel => exact ⟨k + 1, by omega, by go_num, by have e1 : (ls.take (k + 1)).flatten.length = L + k' := E1; rw [e1]; go_num⟩
      case measure => simp [intOf]; omega
    · obtain rfl : k = n := by omega
      have e1 : (ls.take k).flatten.length = F := by
        have h : F = ls.flatten.length := HF
        rw [List.take_of_length_le (by omega), h]
      rw [e1]
      clear e1
      go_wp2_with fail
      refine (grow_any F hbig w).mono ?_
      rintro e w1 ⟨A1, c1, rfl, ho1, hb1⟩
      go_wp2
      go_loopw [6, 27] (fun o i wr => ∃ (j : Nat) (A' : Option Addr) (M c' : Nat), j ≤ k ∧ o = .slice A' M c' ∧ i = .int .i64 (j : Int) ∧ wr.ownsRow w.heap.size 5 1 (.slice A' M c') M (bts (ls.take j).flatten) ∧ Below w.heap.size w wr) (fun _ i _ => k - (intOf i).toNat)
      case atStart => exact ⟨0, A1, 0, c1, Nat.zero_le _, rfl, rfl, by simpa [bts] using ho1, hb1⟩
      case round =>
        obtain ⟨j, A', M, c', hj, rfl, rfl, hown, hb⟩ := hrel
        have hML : M = (ls.take j).flatten.length := by
          have h1 := hown.1
          rw [bts_length] at h1
          omega
        by_cases hjk : j < k
        · obtain ⟨a, A, k', c2, hl, rfl, hab, hc, hkc, hcm, hr2⟩ := (hr.below hb).at_ hjk
          have ht := flat_take hl
          have hb1 := flat_le (ls := ls) (j + 1)
          have hb2 : M + k' ≤ 1073741824 := by
            have h : ls.flatten.length ≤ 1073741824 := HB
            have e1 : (ls.take (j + 1)).flatten.length = (ls.take j).flatten.length + k' := by rw [ht, List.length_append, hr2.btlen]
            omega
          have hnew : bts (ls.take j).flatten ++ bts ls[j] = bts (ls.take (j + 1)).flatten := by rw [ht, bts_append]
          have h1c := bts_one ls[j]
          generalize bts ls[j] = X at *
          generalize hY : bts (ls.take (j + 1)).flatten = Y at *
          generalize bts (ls.take j).flatten = Z at *
          have HN := Lib.hid hnew
          have HY := Lib.hid hY
          clear hY hML ht hb1 hnew
          go_wp2_with (at_builtin; refine stop_in ?_)
          refine stop_out (wpList_app rfl (.tmp 31) (.tmp 32) _ rfl w.heap.size 5 i0 _ 1 1 Tryz.underlying32 hi0 hz0 hz1 hz2 rfl (by omega) w hb hb.size _ M Z rfl hown w.heap.size A k' c2 X rfl hr2 h1c (M + k') Y rfl HN (by unfold maxLen; omega) (by omega) ?_)
          intro A3 c3 w3 hown3 hb3 _ hc3 hm3
          go_wp2
          go_roundw
          case rel => exact ⟨j + 1, A3, M + k', c3, by omega, rfl, by go_num, by have hY : bts (ls.take (j + 1)).flatten = Y := HY; rw [hY]; exact hown3, hb3⟩
          case measure => simp [intOf]; omega
        · obtain rfl : j = k := by omega
          have e1 : ls.take j = ls := List.take_of_length_le (by omega)
          rw [e1] at hown hML
          have h : F = ls.flatten.length := HF
          have hMF : M = F := by omega
          subst hMF
          obtain ⟨A4, c4, e4, h5, h6, _⟩ := own_form hown
          injection e4 with e5 e6 e7
          subst e5
          subst e7
          clear hML h e1
          go_wp2
          go_ret
          exact ⟨A', c', rfl, hown, h5, h6, hb⟩

/-- A row of three texts, laid by the call. -/
theorem rows3 (w : World) (e : TypeId) (A1 A2 A3 : Option Addr) (n1 n2 n3 c1 c2 c3 : Nat) (l1 l2 l3 : List UInt8) (h1 : Row w.heap.size w A1 n1 1 (bts l1)) (h2 : Row w.heap.size w A2 n2 1 (bts l2)) (h3 : Row w.heap.size w A3 n3 1 (bts l3))
    (k1 : n1 ≤ c1) (k2 : n2 ≤ c2) (k3 : n3 ≤ c3) (m1 : c1 ≤ maxLen) (m2 : c2 ≤ maxLen) (m3 : c3 ≤ maxLen) :
    Rows2 (w.alloc (.cells #[.slice A1 n1 c1, .slice A2 n2 c2, .slice A3 n3 c3] e)).heap.size (w.alloc (.cells #[.slice A1 n1 c1, .slice A2 n2 c2, .slice A3 n3 c3] e)) (some ⟨w.heap.size, 0, none⟩) 3 [l1, l2, l3] := by
  refine ⟨_, (Row.new w #[.slice A1 n1 c1, .slice A2 n2 c2, .slice A3 n3 c3] e (n := 3) (size := 1) rfl).up (by simp), rfl, fun i hi => ?_⟩
  rcases i with _ | _ | _ | i
  · exact ⟨A1, n1, c1, rfl, k1, m1, (h1.alloc (Nat.le_refl _) _).up (by simp)⟩
  · exact ⟨A2, n2, c2, rfl, k2, m2, (h2.alloc (Nat.le_refl _) _).up (by simp)⟩
  · exact ⟨A3, n3, c3, rfl, k3, m3, (h3.alloc (Nat.le_refl _) _).up (by simp)⟩
  · simp at hi
    omega
/-- The head's four bytes, laid by the call. -/
theorem head_row (w : World) (e : TypeId) (k n : Nat) (hk : k < 256) (hn : n ≤ 60000) : Row (w.alloc (.cells #[.int .u8 (k : Int), .int .u8 ((n : Int) / 65536), .int .u8 ((n : Int) / 256), .int .u8 ((n : Int) % 256)] e)).heap.size
    (w.alloc (.cells #[.int .u8 (k : Int), .int .u8 ((n : Int) / 65536), .int .u8 ((n : Int) / 256), .int .u8 ((n : Int) % 256)] e)) (some ⟨w.heap.size, 0, none⟩) 4 1 (bts (Fr.head k n)) := by
  have h := (Row.new w #[.int .u8 (k : Int), .int .u8 ((n : Int) / 65536), .int .u8 ((n : Int) / 256), .int .u8 ((n : Int) % 256)] e (n := 4) (size := 1) rfl).up (B' := (w.alloc (.cells #[.int .u8 (k : Int), .int .u8 ((n : Int) / 65536), .int .u8 ((n : Int) / 256), .int .u8 ((n : Int) % 256)] e)).heap.size) (by simp)
  have e1 : bts (Fr.head k n) = [.int .u8 (k : Int), .int .u8 ((n : Int) / 65536), .int .u8 ((n : Int) / 256), .int .u8 ((n : Int) % 256)] := by
    simp only [bts, Fr.head, List.map_cons, List.map_nil, UInt8.toNat_ofNat', Nat.reducePow]
    rw [show ((k % 256 : Nat) : Int) = (k : Int) from by omega, show ((n / 65536 % 256 : Nat) : Int) = (n : Int) / 65536 from by omega, show ((n / 256 % 256 : Nat) : Int) = (n : Int) / 256 from by omega, show ((n % 256 : Nat) : Int) = (n : Int) % 256 from by omega]
  rw [e1]
  exact h

set_option maxRecDepth 100000 in
set_option maxHeartbeats 1000000 in
theorem fput_any (A : Option Addr) (N c : Nat) (l : List UInt8) (k : Nat) (B : Option Addr) (M d : Nat) (m : List UInt8) (w : World) (hN : N ≤ 500000000) (hNc : N ≤ c) (hc : c ≤ maxLen) (hr : Row w.heap.size w A N 1 (bts l))
    (h1 : 1 ≤ k) (h2 : k ≤ 100) (hM : M ≤ 60000) (hMd : M ≤ d) (hd : d ≤ maxLen) (hq : Row w.heap.size w B M 1 (bts m)) :
    Calls Tryz.prog 68 #[.slice A N c, .int .i64 (k : Int), .slice B M d] w fun e w' => ∃ A' K c', e = .returned (.tuple #[.slice A' K c', .int .i64 0]) ∧
      w'.ownsRow w.heap.size 5 1 (.slice A' K c') K (bts (l ++ Fr.put k m)) ∧ K ≤ c' ∧ c' ≤ maxLen ∧ Below w.heap.size w w' := by
  have a1 : ((k : Int) < 1) = False := by simp; omega
  have a2 : ((100 : Int) < (k : Int)) = False := by simp; omega
  have a3 : ((60000 : Int) < (M : Int)) = False := by simp; omega
  go_enter Tryz.func68, Tryz.ntmps68
  go_wp2_with fail
  refine (seal_any _ 4 4 (Fr.head k M) _ (Nat.le_refl _) (by decide) (by omega) (head_row w _ k M (by omega) hM)).mono ?_
  rintro e w1 ⟨A1, c1, rfl, ho1, hc1, hm1, hb1⟩
  have hb1' := later_ ((Below.refl w.heap.size w).alloc (Nat.le_refl _) _) hb1
  have ho1' := Row.own ho1
  clear ho1 hb1
  have hr1 := (hr.below hb1').up hb1'.size
  have hq1 := (hq.below hb1').up hb1'.size
  go_wp2_with fail
  refine (seal_any B M d m w1 hMd hd (by omega) hq1).mono ?_
  rintro e w2 ⟨A2, c2, rfl, ho2, hc2, hm2, hb2⟩
  have hb2' := later_ hb1' hb2
  have ho2' := Row.own ho2
  have hr2 := (hr1.below hb2).up hb2.size
  have ho12 := (ho1'.below hb2).up hb2.size
  have hb1 := hb1'
  clear ho2 hb2 hb1'
  have hfl : [l, Crc.sealed (Fr.head k M), Crc.sealed m].flatten = l ++ Fr.put k m := by simp [Fr.put, hq.btlen]
  have hl1 := hr.btlen
  have hl2 : (l ++ Fr.put k m).length ≤ 1073741824 := by
    rw [List.length_append, Fr.put_length, hq.btlen]
    omega
  have HL := Lib.hid hl2
  have HF := Lib.hid hfl
  have hrows := rows3 w2 32 A A1 A2 N (4 + 4) (M + 4) c c1 c2 l _ _ hr2 ho12 ho2' hNc hc1 hc2 hc hm1 hm2
  clear hl2 hfl
  go_wp2_with fail
  refine (concat_any _ 3 3 _ _ (by omega) (by have h : [l, Crc.sealed (Fr.head k M), Crc.sealed m].flatten = l ++ Fr.put k m := HF; rw [h]; exact HL) hrows).mono ?_
  rintro e w3 ⟨A3, c3, rfl, ho3, hc3, hm3, hb3⟩
  have hfl : [l, Crc.sealed (Fr.head k M), Crc.sealed m].flatten = l ++ Fr.put k m := HF
  rw [hfl] at ho3 hc3 ⊢
  have hb := later_ (hb2'.alloc hb2'.size _) hb3
  have ho := own_base ho3 (Nat.le_trans hb2'.size (by simp) : w.heap.size ≤ (w2.alloc _).heap.size)
  generalize (l ++ Fr.put k m).length = K at *
  clear ho3 hb3 hfl
  go_wp2
  go_ret2
  exact ⟨A3, K, c3, rfl, ho, hc3, hm3, hb⟩
end Go.Proofs.YthepokgkfaocmaaGreatDoor

/-
  The walks of the sums, behind: sum.Open: what is sealed is opened, all else is refused; nothing that was there is changed.
-/
namespace Go.Proofs.YthepokgkfaocmaaGreatDoor
open Go.RowKit

set_option maxRecDepth 100000 in
set_option maxHeartbeats 400000 in
theorem open_torn (A : Option Addr) (n c : Nat) (w : World) (hn : n < 4) :
    Calls Tryz.prog 105 #[.slice A n c] w fun e w' => e = .returned (.tuple #[.slice none 0 0, .int .i64 4]) ∧ w = w' := by
  go_enter Tryz.func105, Tryz.ntmps105
  go_wp2
  go_ret2
  exact ⟨rfl, rfl⟩

theorem conv_b {B n : Nat} {w : World} {A : Option Addr} {l : List UInt8} (h : Row B w A n 1 (bts l)) (c : Nat) : (convert 32 9 (.slice A n c)).run Tryz.prog w = .ok (.string ⟨l.toArray⟩) w :=
  conv_row _ _ 5 Tryz.underlying32 Tryz.underlying5 Tryz.underlying9 h c

set_option maxRecDepth 100000 in
set_option maxHeartbeats 400000 in
theorem open_bad (A : Option Addr) (n c : Nat) (l : List UInt8) (w : World) (hn : n ≤ c) (hm : c ≤ maxLen) (h4 : 4 ≤ n) (hbig : n ≤ 1073741824) (hr : Row w.heap.size w A n 1 (bts l)) (hne : (Crc.sealed (l.take (n - 4)) == l) = false) :
    Calls Tryz.prog 105 #[.slice A n c] w fun e w' => e = .returned (.tuple #[.slice none 0 0, .int .i64 5]) ∧ Below w.heap.size w w' := by
  have hm' : c ≤ 9223372036854775807 := hm
  have hcut : Row w.heap.size w A (n - 4) 1 (bts (l.take (n - 4))) := by
    have := hr.pre (m := n - 4) (by omega)
    rwa [Nat.mul_one, ← bts_take] at this
  have hcv := conv_b hr.drew c
  go_enter Tryz.func105, Tryz.ntmps105
  go_upto_region 4 with (fail)
  go_cut [11] (fun s wx => s = .bool true ∧ Below w.heap.size w wx)
  case first =>
    go_region_with (go_at_call 97; refine (seal_any A (n - 4) c (l.take (n - 4)) _ (by omega) hm (by omega) hcut.drew).mono ?_; rintro e w1 ⟨A1, c1, rfl, ho1, _, _, hb1⟩; rw [Nat.sub_add_cancel h4] at ho1; have hcv1 := conv_b (Row.own ho1) c1; have hcv2 := conv_b (hr.drew.below hb1) c)
    all_goals (go_wp2_with fail; go_meet; exact ⟨rfl, (Below.refl _ _).drew.trans hb1⟩)
  case rest =>
    obtain ⟨rfl, hb⟩ := hcut
    go_wp2
    go_ret2
    exact ⟨rfl, hb⟩

set_option maxRecDepth 100000 in
set_option maxHeartbeats 400000 in
theorem open_good (A : Option Addr) (n c : Nat) (l : List UInt8) (w : World) (hn : n ≤ c) (hm : c ≤ maxLen) (h4 : 4 ≤ n) (hbig : n ≤ 1073741824) (hr : Row w.heap.size w A n 1 (bts l)) (hne : (Crc.sealed (l.take (n - 4)) == l) = true) :
    Calls Tryz.prog 105 #[.slice A n c] w fun e w' => ∃ A' c', e = .returned (.tuple #[.slice A' (n - 4) c', .int .i64 0]) ∧ w'.ownsRow w.heap.size 5 1 (.slice A' (n - 4) c') (n - 4) (bts (l.take (n - 4))) ∧ n - 4 ≤ c' ∧ c' ≤ maxLen ∧ Below w.heap.size w w' := by
  obtain ⟨i0, hi0, hz0, hz1, hz2⟩ := info_parts info_u8
  have hm' : c ≤ 9223372036854775807 := hm
  have hpre : Row w.heap.size w A (n - 4) 1 (bts (l.take (n - 4))) := by
    have := hr.pre (m := n - 4) (by omega)
    rwa [Nat.mul_one, ← bts_take] at this
  have hcv := conv_b hr.drew c
  have hne' : (!(Crc.sealed (l.take (n - 4)) == l)) = false := by rw [hne]; rfl
  go_enter Tryz.func105, Tryz.ntmps105
  go_upto_region 4 with (fail)
  go_cut [11] (fun s wx => s = .bool false ∧ Below w.heap.size w wx)
  case first =>
    go_region_with (go_at_call 97; refine (seal_any A (n - 4) c (l.take (n - 4)) _ (by omega) hm (by omega) hpre.drew).mono ?_; rintro e w1 ⟨A1, c1, rfl, ho1, _, _, hb1⟩; rw [Nat.sub_add_cancel h4] at ho1; have hcv1 := conv_b (Row.own ho1) c1; have hcv2 := conv_b (hr.drew.below hb1) c)
    all_goals (go_wp2_with fail; go_meet; exact ⟨rfl, (Below.refl _ _).drew.trans hb1⟩)
  case rest =>
    obtain ⟨rfl, hb⟩ := hcut
    clear hne hne' hcv
    go_wp2_with (at_builtin; refine stop_in ?_)
    refine stop_out (wpList_app0 rfl (.const (.slice none 0 0)) (.tmp 22) _ rfl w.heap.size 5 i0 _ 1 1 Tryz.underlying32 hi0 hz0 hz1 hz2 rfl (by omega) w hb hb.size rfl w.heap.size A (n - 4) c (bts (l.take (n - 4))) rfl (hpre.below hb) (bts_one _) (by unfold maxLen; omega) (by omega) ?_)
    intro A2 c2 w2 hown2 hb2 _ hc2 hm2
    go_wp2
    go_ret2
    exact ⟨A2, c2, rfl, hown2, hc2, hm2, hb2⟩
end Go.Proofs.YthepokgkfaocmaaGreatDoor
