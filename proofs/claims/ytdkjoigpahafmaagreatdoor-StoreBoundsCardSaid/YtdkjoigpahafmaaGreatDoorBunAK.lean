/- Texts Unlist, ItemM, ItemN, Step, DiskF, DiskG in one. No conditions. -/
import Derived.Test.YtdkjoigpahafmaaGreatDoorBunAA
import Derived.Test.YtdkjoigpahafmaaGreatDoorBunAG
import Derived.Test.YtdkjoigpahafmaaGreatDoorBunAD
import Derived.Test.YtdkjoigpahafmaaGreatDoorBunAJ
import Derived.Deep.RegionLaw
import Derived.Test.YtdkjoigpahafmaaGreatDoorBunAC
import Derived.StillTailTactics

set_option linter.unusedSimpArgs false
set_option linter.unusedVariables false
set_option maxRecDepth 100000
set_option maxHeartbeats 16000000
namespace Go.Proofs.YtdkjoigpahafmaaGreatDoor
section
open Go Go.RowKit
namespace Pn
theorem takeF_size : ∀ (l : List UInt8) (i acc : Nat), (takeF i acc l).2.2 = 0 → (takeF i acc l).2.1 ≤ i + l.length
 | [], i, acc, h => by simp [takeF] at h
 | c :: r, i, acc, h => by
  unfold takeF at h ⊢
  split
  ·rw [if_pos (by assumption)] at h; simp at h
  ·rw [if_neg (by assumption)] at h
   split
   ·simp
   ·rw [if_neg (by assumption)] at h
    have := takeF_size r (i + 1) _ h
    simp only [List.length_cons]
    omega
theorem take_size {l : List UInt8} (h : (take l).2.2 = 0) : (take l).2.1 ≤ l.length := by
 have := takeF_size l 0 0 h
 unfold take
 omega
theorem takeF_lt : ∀ (l : List UInt8) (i acc : Nat), i ≤ 9 → acc < 2 ^ (7 * i) → (takeF i acc l).1 < 2 ^ 64
 | [], i, acc, _, _ => by simp [takeF]
 | c :: r, i, acc, hi, ha => by
  unfold takeF
  split
  ·simp
  ·rename_i hn
   have h9 : i = 9 → c.toNat ≤ 1 := fun e => by
    rcases Nat.lt_or_ge 1 c.toNat with h | h
    ·exact absurd (.inl ⟨e, h⟩) hn
    ·exact h
   have hpow : 2 ^ (7 * i) * 128 = 2 ^ (7 * (i + 1)) := by rw [Nat.mul_add, Nat.pow_add]
   split
   ·rename_i hc
    show acc + c.toNat * 2 ^ (7 * i) < 2 ^ 64
    rcases (by omega : i = 9 ∨ i ≤ 8) with rfl | h8
    ·have := h9 rfl
     have e1 : c.toNat * 2 ^ (7 * 9) ≤ 1 * 2 ^ (7 * 9) := Nat.mul_le_mul_right _ this
     omega
    ·have e1 : c.toNat * 2 ^ (7 * i) ≤ 127 * 2 ^ (7 * i) := Nat.mul_le_mul_right _ (by omega)
     have e2 : 2 ^ (7 * (i + 1)) ≤ 2 ^ 63 := Nat.pow_le_pow_right (by omega) (by omega)
     omega
   ·rename_i hc
    have h8 : i ≤ 8 := by
     rcases (by omega : i = 9 ∨ i ≤ 8) with rfl | h8
     ·have := h9 rfl; omega
     ·exact h8
    refine takeF_lt r (i + 1) _ (by omega) ?_
    have hcl := c.toNat_lt
    have e1 : (c.toNat - 128) * 2 ^ (7 * i) ≤ 127 * 2 ^ (7 * i) := Nat.mul_le_mul_right _ (by omega)
    omega
theorem take_lt (l : List UInt8) : (take l).1 < 2 ^ 64 := takeF_lt l 0 0 (by omega) (by simp)
end Pn
theorem row_from {B N : Nat} {w : World} {A : Option Addr} {l : List UInt8} (hr : Row B w A N 1 (bts l)) {s : Nat} (hs : s ≤ N) {A' : Option Addr} (hA : s < N → A' = A.map (·.add s)) : Row B w A' (N - s) 1 (bts (l.drop s)) := by
 have h := hr.cut (A' := A') hs (Nat.le_refl N) (fun hlt => by rw [Nat.mul_one]; exact hA hlt)
 rw [Nat.mul_one, Nat.mul_one, ← bts_drop, ← bts_take] at h
 rwa [List.take_of_length_le (by have := hr.btlen; rw [List.length_drop]; omega)] at h
theorem rtake_gen (B R : Nat) (hB : B ≤ R) (A : Option Addr) (N c : Nat) (l : List UInt8) (ok : Bool) (most : Nat) (w : World) (hN : N ≤ 1000000000) (hNc : N ≤ c) (_hm : most < 18446744073709551616)
  (hR : BoxO w 311 R [.slice A N c, .bool ok]) (hr : Row B w A N 1 (bts l)) :
  Calls Tryz.prog 235 #[.pointer (some ⟨R, 0, none⟩), .int .u64 (most : Int)] w fun e w' => ∃ A' N' c', e = .returned (.int .u64 ((Rd.take most (l, ok)).1 : Int)) ∧ N' ≤ c' ∧ N' ≤ N ∧ Row B w' A' N' 1 (bts (Rd.take most (l, ok)).2.1) ∧ BoxO w' 311 R [.slice A' N' c', .bool (Rd.take most (l, ok)).2.2] ∧ Chg [R] w w' := by
 have h0 := hR.cell 0
 have h1 := hR.cell 1
 have hf := hR.free 0
 have hf1 := hR.free 1
 have ht := take_any A N c l w (by omega) (hr.up (Nat.le_trans hB (Nat.le_of_lt hR.lt)))
 have hts := Pn.take_size (l := l)
 have hln := hr.btlen
 have hrt : Rd.take most (l, ok) = if ok = true ∧ (Pn.take l).2.2 = 0 ∧ (Pn.take l).1 ≤ most then ((Pn.take l).1, (l.drop (Pn.take l).2.1, true)) else (0, (l, false)) := rfl
 obtain ⟨T, hT⟩ : ∃ T, T = Rd.take most (l, ok) := ⟨_, rfl⟩
 rw [← hT] at hrt ⊢
 generalize Pn.take l = p at *
 obtain ⟨n, s, er⟩ := p
 simp only [gE0, gE1] at h0 h1 ht hts hrt
 clear hT
 have HRT := Lib.hid hrt
 clear hrt
 have bad : ∀ (W : World), (ok = true ∧ er = 0 ∧ n ≤ most → False) → W = w.setCell ⟨R, 1, none⟩ (.bool false) → ∃ A' N' c', Ending.returned (.int .u64 0) = .returned (.int .u64 (T.1 : Int)) ∧ N' ≤ c' ∧ N' ≤ N ∧ Row B W A' N' 1 (bts T.2.1) ∧ BoxO W 311 R [.slice A' N' c', .bool T.2.2] ∧ Chg [R] w W := by
  intro W h hW
  rw [HRT.out, if_neg h, hW]
  exact ⟨A, N, c, rfl, hNc, Nat.le_refl _, hr.setCell hB _, hR.store 1 _, chg_set w ⟨R, 1, none⟩ _⟩
 have BAD := Lib.hid bad
 clear bad
 cases ok with
 | false =>
  clear hts hln
  go_enter Tryz.func235, Tryz.ntmps235
  go_wp2_with fail
  refine ht.mono ?_
  rintro e w1 ⟨rfl, rfl⟩
  clear ht
  go_wp2
  go_ret
  exact BAD.out _ (fun h => by cases h.1) rfl
 | true =>
  by_cases he : er = 0
  ·by_cases hn : n ≤ most
   ·subst he
    have hsl := hts rfl
    obtain ⟨A', hA'⟩ : ∃ A', (if c = s then A else Option.map (fun x => x.add s) A) = A' := ⟨_, rfl⟩
    have hrow := row_from hr (s := s) (A' := A') (by omega) (fun hlt => by rw [← hA', if_neg (by omega)])
    have hn' : ((most : Int) < (n : Int)) = False := by simp; omega
    have hsN : s ≤ N := by omega
    have hscc : s ≤ c := by omega
    have hres : T = (n, (l.drop s, true)) := by rw [HRT.out, if_pos ⟨rfl, rfl, hn⟩]
    have HRES := Lib.hid hres
    clear hts hln hres BAD HRT
    go_enter Tryz.func235, Tryz.ntmps235
    go_wp2_with fail
    refine ht.mono ?_
    rintro e w1 ⟨rfl, rfl⟩
    clear ht
    go_wp2
    go_ret
    rw [HRES.out]
    exact ⟨A', N - s, c - s, rfl, by omega, by omega, hrow.setCell hB _, hR.store 0 _, chg_set w ⟨R, 0, none⟩ _⟩
   ·subst he
    have hn' : (most : Int) < (n : Int) := by omega
    clear hts hln
    go_enter Tryz.func235, Tryz.ntmps235
    go_wp2_with fail
    refine ht.mono ?_
    rintro e w1 ⟨rfl, rfl⟩
    clear ht
    go_wp2
    go_ret
    exact BAD.out _ (fun h => hn h.2.2) rfl
  ·have he3 : ((er : Int) == 0) = false := by simp; omega
   have he4 : ¬ (er : Int) = 0 := by omega
   clear hts hln
   go_enter Tryz.func235, Tryz.ntmps235
   go_wp2_with fail
   refine ht.mono ?_
   rintro e w1 ⟨rfl, rfl⟩
   clear ht
   go_wp2
   go_ret
   exact BAD.out _ (fun h => he h.2.1) rfl
end
section
open Go Go.RowKit Go.Lib
theorem unsgn_bits (n : Nat) (hn : n < 18446744073709551616) :
  bits .xor .i64 ((n : Int) / 2) (wrap64 (-(wrap64 (bits .and .u64 (n : Int) 1)))) = unsgn n := by
 have h1 : bits .and .u64 (n : Int) 1 = ((n % 2 : Nat) : Int) := by
  have := bits64_and (BitVec.ofNat 64 n) (BitVec.ofNat 64 1)
  rw [BitVec.toNat_ofNat, BitVec.toNat_ofNat, Nat.mod_eq_of_lt hn, BitVec.toNat_and, BitVec.toNat_ofNat, BitVec.toNat_ofNat, Nat.mod_eq_of_lt hn] at this
  rw [show (1 : Int) = ((1 % 2 ^ 64 : Nat) : Int) from rfl, this]
  congr 1
  exact Nat.and_one_is_mod n
 have h2 : ∀ a b : Int, bits .xor .i64 a b = IntKind.i64.wrap ((BitVec.ofInt 64 a ^^^ BitVec.ofInt 64 b).toNat : Int) := fun _ _ => rfl
 rw [h1, h2]
 unfold unsgn
 rw [IntKind.wrap_i64]
 rcases Nat.mod_two_eq_zero_or_one n with h0 | h0
 ·have e2 : wrap64 (-(wrap64 ((0 : Nat) : Int))) = 0 := by simp [wrap64]
  have e3 : (n : Int) / 2 = ((n / 2 : Nat) : Int) := by omega
  rw [if_pos h0, h0, e2, e3, show BitVec.ofInt 64 0 = 0#64 from rfl, BitVec.xor_zero, BitVec.ofInt_natCast, BitVec.toNat_ofNat]
  omega
 ·have e2 : wrap64 (-(wrap64 ((1 : Nat) : Int))) = -1 := by simp [wrap64]
  have e3 : (n : Int) / 2 = ((n / 2 : Nat) : Int) := by omega
  rw [if_neg (by omega), h0, e2, e3, show BitVec.ofInt 64 (-1) = BitVec.allOnes 64 from by decide, BitVec.xor_allOnes, BitVec.toNat_not, BitVec.ofInt_natCast, BitVec.toNat_ofNat]
  omega
theorem unsign_any (n : Nat) (hn : n < 18446744073709551616) (w : World) :
  Calls Tryz.prog 265 #[.int .u64 (n : Int)] w fun e w' => e = .returned (.int .i64 (unsgn n)) ∧ w' = w := by
 have HS := Lib.hid (unsgn_bits n hn)
 go_enter Tryz.func265, Tryz.ntmps265
 go_wp2
 rw [HS.out]
 go_ret
 exact ⟨rfl, rfl⟩
def OnePost (B0 N : Nat) (w : World) (R : It × List UInt8 × Nat) (e : Ending) (w' : World) : Prop := ∃ A' n' c', e = .returned (.tuple #[R.1.val, .slice A' n' c', .int .i64 (R.2.2 : Int)]) ∧ Row B0 w A' n' 1 (bts R.2.1) ∧ n' ≤ N ∧ n' ≤ c' ∧ c' ≤ maxLen ∧ Below w.heap.size w w'
def a3 (ns : List Nat) : List Value := [.int .u64 (ns.getD 0 0 : Nat), .int .u64 (ns.getD 1 0 : Nat), .int .u64 (ns.getD 2 0 : Nat)]
theorem a3_set (ns : List Nat) (x : Nat) (h : ns.length < 3) : (a3 ns).set ns.length (.int .u64 (x : Int)) = a3 (ns ++ [x]) := by
 match ns, h with
 | [], _ => rfl
 | [a], _ => rfl
 | [a, b], _ => rfl
theorem ibox5 {w : World} {g : Nat} {cs : List Value} (x : It) (h : BoxO w 27 g cs) (hl : cs.length = 5) : BoxO (((((w.setCell ⟨g, 0, none⟩ (.int .i64 x.s)).setCell ⟨g, 1, none⟩ (.int .i64 x.k)).setCell ⟨g, 2, none⟩ (.int .u64 (x.t : Int))).setCell ⟨g, 3, none⟩ (.int .u64 (x.v : Int))).setCell ⟨g, 4, none⟩ (.int .i64 x.x)) 27 g x.cells ∧ Chg [g] w (((((w.setCell ⟨g, 0, none⟩ (.int .i64 x.s)).setCell ⟨g, 1, none⟩ (.int .i64 x.k)).setCell ⟨g, 2, none⟩ (.int .u64 (x.t : Int))).setCell ⟨g, 3, none⟩ (.int .u64 (x.v : Int))).setCell ⟨g, 4, none⟩ (.int .i64 x.x)) := by
 obtain ⟨a0, a1, a2, a3, a4, rfl⟩ : ∃ a0 a1 a2 a3 a4, cs = [a0, a1, a2, a3, a4] := by
  match cs, hl with
  | [a0, a1, a2, a3, a4], _ => exact ⟨_, _, _, _, _, rfl⟩
 exact ⟨((((h.store 0 _).store 1 _).store 2 _).store 3 _).store 4 _, (((((Chg.refl _ w).setCell _ (.inl (by simp))).setCell _ (.inl (by simp))).setCell _ (.inl (by simp))).setCell _ (.inl (by simp))).setCell _ (.inl (by simp))⟩
theorem icells5 {w : World} {g : Nat} {cs : List Value} (h : BoxO w 27 g cs) (hl : cs.length = 5) : ∃ a0 a1 a2 a3 a4, w.cell? ⟨g, 0, none⟩ = some a0 ∧ w.cell? ⟨g, 1, none⟩ = some a1 ∧ w.cell? ⟨g, 2, none⟩ = some a2 ∧ w.cell? ⟨g, 3, none⟩ = some a3 ∧ w.cell? ⟨g, 4, none⟩ = some a4 := by
 match cs, hl with
 | [a0, a1, a2, a3, a4], _ => exact ⟨a0, a1, a2, a3, a4, h.cell 0, h.cell 1, h.cell 2, h.cell 3, h.cell 4⟩
theorem a3_at {w : World} {g k : Nat} {cs : List Value} (h : BoxO w 339 g cs) (hl : cs.length = 3) (hk : k < 3) : ∃ u, w.cell? ⟨g, k, none⟩ = some u := by
 rw [h.cell]
 exact ⟨_, List.getElem?_eq_getElem (by omega)⟩
theorem tks_lt : ∀ {k : Nat} {b : List UInt8} {ns : List Nat} {r : List UInt8}, It.tks k b = some (ns, r) → ∀ n ∈ ns, n < 18446744073709551616
 | 0, b, ns, r, h => by
  obtain ⟨rfl, _⟩ := It.tks_zero h
  simp
 | k + 1, b, ns, r, h => by
  obtain ⟨ms, q, h1, _, rfl, _⟩ := It.tks_prev (n := 0) (q := []) h
  intro n hn
  rcases List.mem_append.1 hn with h2 | h2
  ·exact tks_lt h1 n h2
  ·rw [List.mem_singleton.1 h2]
   exact Pn.take_lt q
theorem tks3_lt {b : List UInt8} {ns : List Nat} {r : List UInt8} (h : It.tks 3 b = some (ns, r)) : ns.getD 2 0 < 18446744073709551616 := by
 have h1 := It.tks_len h
 have h2 : 2 < ns.length := by omega
 rw [List.getD_eq_getElem?_getD, List.getElem?_eq_getElem h2]
 exact tks_lt h _ (List.getElem_mem h2)
theorem one_any (A : Option Addr) (N c : Nat) (b : List UInt8) (w : World) (hN : N ≤ 1000000) (hNc : N ≤ c) (hcm : c ≤ maxLen) (B0 : Nat) (hB0 : B0 ≤ w.heap.size) (hrB : Row B0 w A N 1 (bts b)) :
  Calls Tryz.prog 241 #[.slice A N c] w (OnePost B0 N w (It.take1 b)) := by
 have hr := hrB.up hB0
 have hln := hr.btlen
 have hU := (Below.refl w.heap.size w).alloc (Nat.le_refl _) (.cells #[.int .i64 0, .int .i64 0, .int .u64 0, .int .u64 0, .int .i64 0] 27)
 have hbx : BoxO (w.alloc (.cells #[.int .i64 0, .int .i64 0, .int .u64 0, .int .u64 0, .int .i64 0] 27)) 27 w.heap.size [.int .i64 0, .int .i64 0, .int .u64 0, .int .u64 0, .int .i64 0] := BoxO.new w _ 27
 by_cases h2 : b.length < 2
 ·have hn2 : (N : Int) < 2 := by omega
  have hR : It.take1 b = (It.zero_, [], 4) := by rw [It.take1_eq, if_pos h2]
  rw [hR]
  have c0 := hbx.cell 0
  have c1 := hbx.cell 1
  have c2 := hbx.cell 2
  have c3 := hbx.cell 3
  have c4 := hbx.cell 4
  have f0 := hbx.free 0
  have f1 := hbx.free 1
  have f2 := hbx.free 2
  have f3 := hbx.free 3
  have f4 := hbx.free 4
  simp only [gE0, gE1] at c0 c1 c2 c3 c4
  have HB := Lib.hid hU
  clear hbx hU hR
  go_enter Tryz.func241, Tryz.ntmps241
  go_wp2
  refine bodyPost_ret (v := .tuple #[It.zero_.val, .slice none 0 0, .int .i64 4]) (by simp [results, go_sem, It.val, It.zero_, *]) rfl ⟨none, 0, 0, rfl, Row.nil_, by omega, by omega, by omega, ?_⟩
  exact HB.out
 ·have hn2 : ((N : Int) < 2) = False := eq_false (by omega)
  obtain ⟨p, hl0, hA, hpb, d0⟩ := hr.bt (k := 0) (by omega)
  obtain ⟨p', hl1, hA', _, d1⟩ := hr.bt (k := 1) (by omega)
  rw [hA] at hA'
  injection hA' with hA'
  subst hA' hA
  have hu0 : Fr.u b 0 = (b[0]).toNat := by simp [Fr.u, List.getD_eq_getElem?_getD, List.getElem?_eq_getElem hl0]
  have hu1 : Fr.u b 1 = (b[1]).toNat := by simp [Fr.u, List.getD_eq_getElem?_getD, List.getElem?_eq_getElem hl1]
  rw [← hu0] at d0
  rw [← hu1] at d1
  obtain ⟨s, hs⟩ : ∃ s, s = Fr.u b 0 := ⟨_, rfl⟩
  obtain ⟨kd, hkd⟩ : ∃ kd, kd = Fr.u b 1 := ⟨_, rfl⟩
  rw [← hs] at d0
  rw [← hkd] at d1
  have hs8 : s < 256 := by rw [hs, hu0]; exact (b[0]).toNat_lt
  have hk8 : kd < 256 := by rw [hkd, hu1]; exact (b[1]).toNat_lt
  have hws : IntKind.i64.wrap (s : Int) = (s : Int) := IntWalk.i64_in _ (by omega)
  have hwk : IntKind.i64.wrap (kd : Int) = (kd : Int) := IntWalk.i64_in _ (by omega)
  rw [show p.add 0 = p from rfl] at d0
  rw [show p.add 1 = ⟨p.block, p.off + 1, none⟩ from rfl] at d1
  have hkc : ∀ w', Chg [w.heap.size] (w.alloc (.cells #[.int .i64 0, .int .i64 0, .int .u64 0, .int .u64 0, .int .i64 0] 27)) w' → w'.cell? p = some (.int .u8 (s : Int)) ∧ w'.cell? ⟨p.block, p.off + 1, none⟩ = some (.int .u8 (kd : Int)) := fun w' hc => by
   have hb := hU.trans (hc.below hU.size (fun g hg => by rw [List.mem_singleton.1 hg]; exact Nat.le_refl _))
   exact ⟨(hb.cell (p := p) hpb).trans d0, (hb.cell (p := ⟨p.block, p.off + 1, none⟩) hpb).trans d1⟩
  have hr2 := row_from hr (s := 2) (by omega) (A' := some (p.add 2)) (fun _ => rfl)
  obtain ⟨V, hV⟩ : ∃ V, V = w.alloc (.cells #[.int .i64 0, .int .i64 0, .int .u64 0, .int .u64 0, .int .i64 0] 27) := ⟨_, rfl⟩
  rw [← hV] at hkc hU hbx
  have KC := Lib.hid hkc
  have HU := Lib.hid hU
  have HBX := Lib.hid hbx
  have HS := Lib.hid (And.intro hs hkd)
  have HR := Lib.hid hrB
  have hVs := hV.symm
  obtain ⟨A2, hA2⟩ : ∃ A2, (if c = 2 then some p else some ⟨p.block, p.off + 2, none⟩) = A2 := ⟨_, rfl⟩
  have hc2 : 2 ≤ c := by omega
  have hN0 : 0 < N := by omega
  have hN1 : 1 < N := by omega
  have hN0i : (0 : Int) < (N : Int) := by omega
  have hN1i : (1 : Int) < (N : Int) := by omega
  have hN2 : 2 ≤ N := by omega
  have hN2i : (2 : Int) ≤ (N : Int) := by omega
  clear hkc hU hbx hs hkd hr hV hr2 d0 d1 hu0 hu1
  go_enter Tryz.func241, Tryz.ntmps241
  go_wp2_with fail
  refine wp_region_held_drew (S := fun w' => Chg [w.heap.size] V w' ∧ ∃ cs : List Value, cs.length = 5 ∧ BoxO w' 27 w.heap.size cs) rfl ⟨(Chg.refl _ V).drew, _, rfl, HBX.out.drew⟩ (fun hSw => ?_)
  refine wpT (i := 0) (v := ?vra0) ?hra0 hSw ?kra0
  case hra0 => (intro w hSw; (obtain ⟨d0, d1⟩ := KC.out w hSw.1); go_simp; try (with_reducible rfl))
  go_simp
  refine wpT (i := 1) (v := ?vra1) ?hra1 hSw ?kra1
  case hra1 => (intro w hSw; (obtain ⟨d0, d1⟩ := KC.out w hSw.1); go_simp; try (with_reducible rfl))
  go_simp
  refine wpT (i := 2) (v := ?vra2) ?hra2 hSw ?kra2
  case hra2 => (intro w hSw; (obtain ⟨d0, d1⟩ := KC.out w hSw.1); go_simp; try (with_reducible rfl))
  go_simp
  refine wpT (i := 3) (v := ?vra3) ?hra3 hSw ?kra3
  case hra3 => (intro w hSw; (obtain ⟨d0, d1⟩ := KC.out w hSw.1); go_simp; try (with_reducible rfl))
  go_simp
  refine wpT (i := 4) (v := ?vra4) ?hra4 hSw ?kra4
  case hra4 => (intro w hSw; (obtain ⟨d0, d1⟩ := KC.out w hSw.1); go_simp; try (with_reducible rfl))
  go_simp
  refine wpT (i := 5) (v := ?vra5) ?hra5 hSw ?kra5
  case hra5 => (intro w hSw; (obtain ⟨d0, d1⟩ := KC.out w hSw.1); go_simp; try (with_reducible rfl))
  go_simp
  refine wpT (i := 6) (v := ?vra6) ?hra6 hSw ?kra6
  case hra6 => (intro w hSw; (obtain ⟨d0, d1⟩ := KC.out w hSw.1); go_simp; try (with_reducible rfl))
  go_simp
  refine wpT (i := 7) (v := ?vra7) ?hra7 hSw ?kra7
  case hra7 => (intro w hSw; (obtain ⟨d0, d1⟩ := KC.out w hSw.1); go_simp; try (with_reducible rfl))
  go_simp
  refine wpT (i := 8) (v := ?vra8) ?hra8 hSw ?kra8
  case hra8 => (intro w hSw; (obtain ⟨d0, d1⟩ := KC.out w hSw.1); go_simp; try (with_reducible rfl))
  go_simp
  refine wpAnyH_ready (rs := [9]) (by kernel_rfl) (by simp) ?_
  refine AllReadyH.cons rfl (fun K hK => ?_) AllReadyH.nil
  (obtain ⟨cs, hcl, hcb⟩ := hSw.2; obtain ⟨_, _, _, _, _, q0, q1, q2, q3, q4⟩ := icells5 hcb hcl; have z0 := hcb.free 0)
  go_simp
  refine hK.out _ _ ⟨hSw.1.setCell _ (.inl (by simp)), _, by rw [List.length_set]; exact hcl, hcb.store 0 _⟩ (fun hSn => ?_)
  clear hK K hSw
  have hSw := hSn
  clear hSn
  go_simp
  refine wpT (i := 10) (v := ?vra10) ?hra10 hSw ?kra10
  case hra10 => (intro w hSw; (obtain ⟨d0, d1⟩ := KC.out w hSw.1); go_simp; try (with_reducible rfl))
  go_simp
  refine wpAnyH_ready (rs := [11]) (by kernel_rfl) (by simp) ?_
  refine AllReadyH.cons rfl (fun K hK => ?_) AllReadyH.nil
  (obtain ⟨cs, hcl, hcb⟩ := hSw.2; obtain ⟨_, _, _, _, _, q0, q1, q2, q3, q4⟩ := icells5 hcb hcl; have z0 := hcb.free 1)
  go_simp
  refine hK.out _ _ ⟨hSw.1.setCell _ (.inl (by simp)), _, by rw [List.length_set]; exact hcl, hcb.store 1 _⟩ (fun hSn => ?_)
  clear hK K hSw
  have hSw := hSn
  clear hSn
  go_simp
  refine wpAnyH_done (by kernel_rfl) ?_ _
  clear hSw KC
  have hbW : BoxO ((V.setCell ⟨w.heap.size, 0, none⟩ (.int .i64 (s : Int))).setCell ⟨w.heap.size, 1, none⟩ (.int .i64 (kd : Int))).drew 27 w.heap.size [.int .i64 (s : Int), .int .i64 (kd : Int), .int .u64 0, .int .u64 0, .int .i64 0] := ((HBX.out.store 0 _).store 1 _).drew
  have hcW : Chg [w.heap.size] V ((V.setCell ⟨w.heap.size, 0, none⟩ (.int .i64 (s : Int))).setCell ⟨w.heap.size, 1, none⟩ (.int .i64 (kd : Int))).drew := (((Chg.refl _ V).setCell _ (.inl (by simp))).setCell _ (.inl (by simp))).drew
  have hlw : w.heap.size < V.heap.size := HBX.out.lt
  obtain ⟨W, hW⟩ : ∃ W, W = ((V.setCell ⟨w.heap.size, 0, none⟩ (.int .i64 (s : Int))).setCell ⟨w.heap.size, 1, none⟩ (.int .i64 (kd : Int))).drew := ⟨_, rfl⟩
  rw [← hW] at hbW hcW ⊢
  have hUb := HU.out.trans (hcW.below HU.out.size (fun g hg => by rw [List.mem_singleton.1 hg]; exact Nat.le_refl _))
  have hr2 := row_from HR.out (s := 2) hN2 (A' := A2) (fun hlt => by rw [← hA2, if_neg (by omega)]; rfl)
  have hUa := hUb.alloc hUb.size (.cells #[.int .u64 0, .int .u64 0, .int .u64 0] 339)
  have hba := BoxO.new W #[.int .u64 0, .int .u64 0, .int .u64 0] 339
  have hbg := hbW.alloc (.cells #[.int .u64 0, .int .u64 0, .int .u64 0] 339)
  have hgl := hbW.lt
  obtain ⟨Y, hY⟩ : ∃ Y, Y = W.alloc (.cells #[.int .u64 0, .int .u64 0, .int .u64 0] 339) := ⟨_, rfl⟩
  rw [← hY] at hUa hba hbg
  have hYs := hY.symm
  have hne : w.heap.size ≠ W.heap.size := by omega
  have hge : w.heap.size ≤ W.heap.size := by omega
  have HUA := Lib.hid hUa
  have HBA := Lib.hid (show BoxO Y 339 W.heap.size (a3 []) from hba)
  have HBG := Lib.hid hbg
  have HR2 := Lib.hid hr2
  have HNE := Lib.hid (And.intro hne hge)
  clear hbW hcW hW hUb hr2 hUa hba hbg hY hlw hgl hVs HBX HU HR hne hge hpb hl0 hl1
  go_wp2_with fail
  go_loopw [0, 26] (fun bv i wr => ∃ (k n : Nat) (A4 : Option Addr) (c4 : Nat) (ns : List Nat) (r : List UInt8), k ≤ 3 ∧ bv = .slice A4 n c4 ∧ i = .int .i64 (k : Int) ∧ Hid (It.tks k (b.drop 2) = some (ns, r) ∧ Row B0 w A4 n 1 (bts r) ∧ n ≤ c4 ∧ c4 ≤ maxLen ∧ n ≤ N ∧ BoxO wr 339 W.heap.size (a3 ns)) ∧ Chg [W.heap.size] Y wr) (fun _ i _ => 3 - (intOf i).toNat)
  case atStart => exact ⟨0, N - 2, A2, c - 2, [], b.drop 2, by omega, by simp, rfl, Lib.hid ⟨rfl, HR2.out, by omega, by unfold maxLen at *; omega, by omega, HBA.out⟩, Chg.refl _ _⟩
  case round =>
   obtain ⟨k, n, A4, c4, ns, r, hk3, rfl, rfl, HK, hc⟩ := hrel
   have hbw := HUA.out.trans (hc.below HUA.out.size (fun g hg => by rw [List.mem_singleton.1 hg]; exact HNE.out.2))
   have hbg := HBG.out.chg hc (by simpa using HNE.out.1)
   have hnsl := It.tks_len HK.out.1
   by_cases hk : k < 3
   ·have hki : (k : Int) < 3 := by omega
    have hwk' : IntKind.i64.wrap (k : Int) = (k : Int) := IntWalk.i64_in _ (by omega)
    have hrr := ((HK.out.2.1.up hB0).below hbw).up hbw.size
    have hrl := hrr.btlen
    have htk := take_any A4 n c4 r wr (by have := HK.out.2.2.2.2.1; omega) hrr
    have hsz := Pn.take_size (l := r)
    obtain ⟨x, hx⟩ : ∃ x, x = (Pn.take r).1 := ⟨_, rfl⟩
    obtain ⟨sz, hsze⟩ : ∃ sz, sz = (Pn.take r).2.1 := ⟨_, rfl⟩
    obtain ⟨er, her⟩ : ∃ er, er = (Pn.take r).2.2 := ⟨_, rfl⟩
    rw [← hx, ← hsze, ← her] at htk
    rw [← her, ← hsze] at hsz
    have HTK := Lib.hid htk
    have HX := Lib.hid hx
    have HSZ := Lib.hid hsze
    have HER := Lib.hid her
    by_cases he : er = 0
    ·subst he
     have hszl := hsz rfl
     have htks := It.tks_succ HK.out.1 HER.out.symm
     obtain ⟨A5, hA5⟩ : ∃ A5, (if c4 = sz then A4 else Option.map (fun x => x.add sz) A4) = A5 := ⟨_, rfl⟩
     have hr5 := row_from HK.out.2.1 (s := sz) (by omega) (A' := A5) (fun hlt2 => by rw [← hA5, if_neg (by have := HK.out.2.2.1; omega)])
     rw [← HX.out, ← HSZ.out] at htks
     have hszn : sz ≤ n := by omega
     have hszni : (sz : Int) ≤ (n : Int) := by omega
     have hszc : sz ≤ c4 := by have := HK.out.2.2.1; omega
     have hszci : (sz : Int) ≤ (c4 : Int) := by omega
     have HT := Lib.hid (And.intro htks hr5)
     have HCB := Lib.hid (And.intro hc hbw)
     clear htk hsz htks hr5 hrr hx hsze her hbg hbw hnsl
     go_wp2_with fail
     refine HTK.out.mono ?_
     rintro e w1 ⟨rfl, hw1⟩
     subst hw1
     clear HTK
     go_wp2_with fail
     refine wp_region_held_drew (S := fun w' => Chg [W.heap.size] Y w' ∧ ∃ cs : List Value, cs.length = 3 ∧ BoxO w' 339 W.heap.size cs) rfl ⟨HCB.out.1.drew, _, rfl, HK.out.2.2.2.2.2.drew⟩ (fun hSw => ?_)
     refine wpT (i := 0) (v := ?vrb0) ?hrb0 hSw ?krb0
     case hrb0 => (intro w hSw; skip; go_simp; try (with_reducible rfl))
     go_simp
     refine wpT (i := 1) (v := ?vrb1) ?hrb1 hSw ?krb1
     case hrb1 => (intro w hSw; skip; go_simp; try (with_reducible rfl))
     go_simp
     refine wpT (i := 2) (v := ?vrb2) ?hrb2 hSw ?krb2
     case hrb2 => (intro w hSw; skip; go_simp; try (with_reducible rfl))
     go_simp
     refine wpT (i := 3) (v := ?vrb3) ?hrb3 hSw ?krb3
     case hrb3 => (intro w hSw; skip; go_simp; try (with_reducible rfl))
     go_simp
     refine wpT (i := 4) (v := ?vrb4) ?hrb4 hSw ?krb4
     case hrb4 => (intro w hSw; skip; go_simp; try (with_reducible rfl))
     go_simp
     refine wpT (i := 5) (v := ?vrb5) ?hrb5 hSw ?krb5
     case hrb5 => (intro w hSw; skip; go_simp; try (with_reducible rfl))
     go_simp
     refine wpAnyH_ready (rs := [6]) (by kernel_rfl) (by simp) ?_
     refine AllReadyH.cons rfl (fun K hK => ?_) AllReadyH.nil
     (obtain ⟨cs, hcl, hcb⟩ := hSw.2; obtain ⟨_, q0⟩ := a3_at hcb hcl hk; have z0 := hcb.free k)
     go_simp
     refine hK.out _ _ ⟨hSw.1.setCell _ (.inl (by simp)), _, by rw [List.length_set]; exact hcl, hcb.store k _⟩ (fun hSn => ?_)
     clear hK K hSw
     have hSw := hSn
     clear hSn
     go_simp
     refine wpT (i := 7) (v := ?vrb7) ?hrb7 hSw ?krb7
     case hrb7 => (intro w hSw; skip; go_simp; try (with_reducible rfl))
     go_simp
     refine wpAnyH_done (by kernel_rfl) ?_ _
     have hc3 : Chg [W.heap.size] Y (wr.setCell ⟨W.heap.size, k, none⟩ (.int .u64 (x : Int))).drew := (HCB.out.1.setCell _ (.inl (by simp))).drew
     have hb3 := (HK.out.2.2.2.2.2.store k (.int .u64 (x : Int))).drew
     rw [← It.tks_len HK.out.1, a3_set ns x (by rw [It.tks_len HK.out.1]; exact hk), It.tks_len HK.out.1] at hb3
     have HF := Lib.hid (And.intro hb3 hc3)
     clear hSw hb3 hc3
     go_wp2
     go_roundw
     case rel => exact ⟨k + 1, n - sz, A5, c4 - sz, ns ++ [x], r.drop sz, by omega, by simp [hA5], by go_num, Lib.hid ⟨HT.out.1, HT.out.2, by have := HK.out.2.2.1; omega, by have := HK.out.2.2.2.1; omega, by have := HK.out.2.2.2.2.1; omega, HF.out.1⟩, HF.out.2⟩
     case measure => simp [intOf]; omega
    ·have hR : It.take1 b = (It.zero_, [], er) := by rw [It.take1_bad h2 hk HK.out.1 (by rw [← HER.out]; exact he), ← HER.out]
     have he3 : ((er : Int) == 0) = false := by simp; omega
     have q0 := hbg.cell 0
     have q1 := hbg.cell 1
     have q2 := hbg.cell 2
     have q3 := hbg.cell 3
     have q4 := hbg.cell 4
     have z0 := hbg.free 0
     have z1 := hbg.free 1
     have z2 := hbg.free 2
     have z3 := hbg.free 3
     have z4 := hbg.free 4
     simp only [gE0, gE1] at q0 q1 q2 q3 q4
     have hfin := hbw.trans ((ibox5 It.zero_ hbg rfl).2.below hbw.size (fun g hg => by rw [List.mem_singleton.1 hg]; exact Nat.le_refl _))
     have HFIN := Lib.hid hfin
     have HR := Lib.hid hR
     clear htk hsz hrr hx hsze her hbg hbw hnsl hfin hR
     go_wp2_with fail
     refine HTK.out.mono ?_
     rintro e w1 ⟨rfl, hw1⟩
     subst hw1
     clear HTK
     go_wp2
     rw [HR.out]
     refine bodyPost_ret (v := .tuple #[It.zero_.val, .slice none 0 0, .int .i64 (er : Int)]) (by simp [results, go_sem, It.val, It.zero_, *]) rfl ⟨none, 0, 0, rfl, Row.nil_, by omega, by omega, by omega, HFIN.out⟩
   ·obtain rfl : k = 3 := by omega
    have hR := It.take1_good h2 HK.out.1
    rw [← HS.out.1, ← HS.out.2] at hR
    have hbA := HK.out.2.2.2.2.2
    have hus := fun W1 => unsign_any (ns.getD 2 0) (tks3_lt HK.out.1) W1
    have hkz : ∀ w', Chg [w.heap.size] wr w' → w'.cell? ⟨W.heap.size, 0, none⟩ = some (.int .u64 (ns.getD 0 0 : Nat)) ∧ w'.cell? ⟨W.heap.size, 1, none⟩ = some (.int .u64 (ns.getD 1 0 : Nat)) ∧ w'.cell? ⟨W.heap.size, 2, none⟩ = some (.int .u64 (ns.getD 2 0 : Nat)) := fun w' h => by
     have e := hbA.chg h (by simpa using fun e => HNE.out.1 e.symm)
     exact ⟨e.cell 0, e.cell 1, e.cell 2⟩
    generalize ns.getD 0 0 = t at *
    generalize ns.getD 1 0 = v at *
    generalize ns.getD 2 0 = xv at *
    have KZ := Lib.hid hkz
    have HUS := Lib.hid hus
    have HR := Lib.hid hR
    have HBW := Lib.hid hbw
    have HBG2 := Lib.hid hbg
    clear hkz hus hR hbA hbw hbg
    go_wp2_with fail
    refine wp_region_held_drew (S := fun w' => Chg [w.heap.size] wr w' ∧ ∃ cs : List Value, cs.length = 5 ∧ BoxO w' 27 w.heap.size cs) rfl ⟨(Chg.refl _ wr).drew, _, rfl, HBG2.out.drew⟩ (fun hSw => ?_)
    refine wpT (i := 0) (v := ?vrc0) ?hrc0 hSw ?krc0
    case hrc0 => (intro w hSw; (obtain ⟨d0, d1, d2⟩ := KZ.out w hSw.1); go_simp; try (with_reducible rfl))
    go_simp
    refine wpT (i := 1) (v := ?vrc1) ?hrc1 hSw ?krc1
    case hrc1 => (intro w hSw; (obtain ⟨d0, d1, d2⟩ := KZ.out w hSw.1); go_simp; try (with_reducible rfl))
    go_simp
    refine wpT (i := 2) (v := ?vrc2) ?hrc2 hSw ?krc2
    case hrc2 => (intro w hSw; (obtain ⟨d0, d1, d2⟩ := KZ.out w hSw.1); go_simp; try (with_reducible rfl))
    go_simp
    refine wpT (i := 3) (v := ?vrc3) ?hrc3 hSw ?krc3
    case hrc3 => (intro w hSw; (obtain ⟨d0, d1, d2⟩ := KZ.out w hSw.1); go_simp; try (with_reducible rfl))
    go_simp
    refine wpT (i := 4) (v := ?vrc4) ?hrc4 hSw ?krc4
    case hrc4 => (intro w hSw; (obtain ⟨d0, d1, d2⟩ := KZ.out w hSw.1); go_simp; try (with_reducible rfl))
    go_simp
    refine wpT (i := 5) (v := ?vrc5) ?hrc5 hSw ?krc5
    case hrc5 => (intro w hSw; (obtain ⟨d0, d1, d2⟩ := KZ.out w hSw.1); go_simp; try (with_reducible rfl))
    go_simp
    refine wpT (i := 7) (v := ?vrc7) ?hrc7 hSw ?krc7
    case hrc7 => (intro w hSw; (obtain ⟨d0, d1, d2⟩ := KZ.out w hSw.1); go_simp; try (with_reducible rfl))
    go_simp
    refine wpAnyH_ready (rs := [6]) (by kernel_rfl) (by simp) ?_
    refine AllReadyH.cons rfl (fun K hK => ?_) AllReadyH.nil
    go_simp
    with_reducible refine (HUS.out _).mono ?_
    rintro e w7 ⟨rfl, rfl⟩
    go_simp
    refine hK.out _ _ hSw (fun hSn => ?_)
    clear hK K hSw
    have hSw := hSn
    clear hSn
    go_simp
    refine wpAnyH_ready (rs := [8]) (by kernel_rfl) (by simp) ?_
    refine AllReadyH.cons rfl (fun K hK => ?_) AllReadyH.nil
    (obtain ⟨cs, hcl, hcb⟩ := hSw.2; obtain ⟨_, _, _, _, _, q0, q1, q2, q3, q4⟩ := icells5 hcb hcl; have z0 := hcb.free 2)
    go_simp
    refine hK.out _ _ ⟨hSw.1.setCell _ (.inl (by simp)), _, by rw [List.length_set]; exact hcl, hcb.store 2 _⟩ (fun hSn => ?_)
    clear hK K hSw
    have hSw := hSn
    clear hSn
    go_simp
    refine wpT (i := 9) (v := ?vrc9) ?hrc9 hSw ?krc9
    case hrc9 => (intro w hSw; (obtain ⟨d0, d1, d2⟩ := KZ.out w hSw.1); go_simp; try (with_reducible rfl))
    go_simp
    refine wpAnyH_ready (rs := [10]) (by kernel_rfl) (by simp) ?_
    refine AllReadyH.cons rfl (fun K hK => ?_) AllReadyH.nil
    (obtain ⟨cs, hcl, hcb⟩ := hSw.2; obtain ⟨_, _, _, _, _, q0, q1, q2, q3, q4⟩ := icells5 hcb hcl; have z0 := hcb.free 3)
    go_simp
    refine hK.out _ _ ⟨hSw.1.setCell _ (.inl (by simp)), _, by rw [List.length_set]; exact hcl, hcb.store 3 _⟩ (fun hSn => ?_)
    clear hK K hSw
    have hSw := hSn
    clear hSn
    go_simp
    refine wpT (i := 11) (v := ?vrc11) ?hrc11 hSw ?krc11
    case hrc11 => (intro w hSw; (obtain ⟨d0, d1, d2⟩ := KZ.out w hSw.1); go_simp; try (with_reducible rfl))
    go_simp
    refine wpAnyH_ready (rs := [12]) (by kernel_rfl) (by simp) ?_
    refine AllReadyH.cons rfl (fun K hK => ?_) AllReadyH.nil
    (obtain ⟨cs, hcl, hcb⟩ := hSw.2; obtain ⟨_, _, _, _, _, q0, q1, q2, q3, q4⟩ := icells5 hcb hcl; have z0 := hcb.free 4)
    go_simp
    refine hK.out _ _ ⟨hSw.1.setCell _ (.inl (by simp)), _, by rw [List.length_set]; exact hcl, hcb.store 4 _⟩ (fun hSn => ?_)
    clear hK K hSw
    have hSw := hSn
    clear hSn
    go_simp
    refine wpAnyH_done (by kernel_rfl) ?_ _
    have hb5 : BoxO (((wr.setCell ⟨w.heap.size, 2, none⟩ (.int .u64 (t : Int))).setCell ⟨w.heap.size, 3, none⟩ (.int .u64 (v : Int))).setCell ⟨w.heap.size, 4, none⟩ (.int .i64 (unsgn xv))).drew 27 w.heap.size [.int .i64 (s : Int), .int .i64 (kd : Int), .int .u64 (t : Int), .int .u64 (v : Int), .int .i64 (unsgn xv)] := (((HBG2.out.store 2 _).store 3 _).store 4 _).drew
    have hcs := hSw.1
    clear hSw
    obtain ⟨X, hX⟩ : ∃ X, X = (((wr.setCell ⟨w.heap.size, 2, none⟩ (.int .u64 (t : Int))).setCell ⟨w.heap.size, 3, none⟩ (.int .u64 (v : Int))).setCell ⟨w.heap.size, 4, none⟩ (.int .i64 (unsgn xv))).drew := ⟨_, rfl⟩
    rw [← hX] at hb5 hcs ⊢
    have q0 := hb5.cell 0
    have q1 := hb5.cell 1
    have q2 := hb5.cell 2
    have q3 := hb5.cell 3
    have q4 := hb5.cell 4
    have z0 := hb5.free 0
    have z1 := hb5.free 1
    have z2 := hb5.free 2
    have z3 := hb5.free 3
    have z4 := hb5.free 4
    simp only [gE0, gE1] at q0 q1 q2 q3 q4
    have hbX := HBW.out.trans (hcs.below HBW.out.size (fun g hg => by rw [List.mem_singleton.1 hg]; exact Nat.le_refl _))
    have hfin := hbX.trans ((ibox5 ⟨(s : Int), (kd : Int), t, v, unsgn xv⟩ hb5 rfl).2.below hbX.size (fun g hg => by rw [List.mem_singleton.1 hg]; exact Nat.le_refl _))
    have hrow := HK.out.2.1
    have HF := Lib.hid (And.intro hrow (And.intro HK.out.2.2.2.2.1 (And.intro HK.out.2.2.1 (And.intro HK.out.2.2.2.1 hfin))))
    clear hb5 hcs hX hbX hfin hrow HBG2
    go_wp2
    rw [HR.out]
    refine bodyPost_ret (v := .tuple #[(It.mk (s : Int) (kd : Int) t v (unsgn xv)).val, .slice A4 n c4, .int .i64 0]) (by simp [results, go_sem, It.val, *]) rfl ⟨A4, n, c4, rfl, HF.out⟩
end
section
open Go Go.RowKit Go.Lib
def IrdPost (w : World) (R : List It × Nat) (e : Ending) (w' : World) : Prop := ∃ A' k c', e = .returned (.tuple #[.slice A' k c', .int .i64 (R.2 : Int)]) ∧ k = R.1.length ∧ Its w.heap.size w' A' k c' R.1 ∧ Below w.heap.size w w'
theorem Its.nil (B : Nat) (w : World) : Its B w none 0 0 [] := ⟨⟨rfl, fun j hj => by simp [itc] at hj⟩, Nat.le_refl _, by unfold maxLen; omega, fun a ha => by cases ha⟩
theorem iread_any (A : Option Addr) (N c : Nat) (b : List UInt8) (w : World) (hN : N ≤ 1000000) (hNc : N ≤ c) (hcm : c ≤ maxLen) (hr : Row w.heap.size w A N 1 (bts b)) :
  Calls Tryz.prog 193 #[.slice A N c] w (IrdPost w (It.read b)) := by
 obtain ⟨i0, hi0, hz0, hz1, hz2⟩ := info_parts info_item
 have hln := hr.btlen
 have htk := take_any A N c b w (by omega) hr
 have hsz := Pn.take_size (l := b)
 have hre := It.read_eq b
 obtain ⟨R, hR⟩ : ∃ R, R = It.read b := ⟨_, rfl⟩
 rw [← hR] at hre ⊢
 obtain ⟨n, hn⟩ : ∃ n, n = (Pn.take b).1 := ⟨_, rfl⟩
 obtain ⟨sz, hsze⟩ : ∃ sz, sz = (Pn.take b).2.1 := ⟨_, rfl⟩
 obtain ⟨er, her⟩ : ∃ er, er = (Pn.take b).2.2 := ⟨_, rfl⟩
 rw [← hn, ← hsze, ← her] at htk
 rw [← hn, ← hsze, ← her] at hre
 rw [← her, ← hsze] at hsz
 clear hR hn hsze her
 have HTK := Lib.hid htk
 by_cases he : er = 0
 ·subst he
  have hszl := hsz rfl
  rw [if_pos rfl] at hre
  by_cases h20 : 2000 < n
  ·rw [if_pos h20] at hre
   have h20i : (2000 : Int) < (n : Int) := by omega
   have HRE := Lib.hid hre
   clear htk hre hsz hr
   go_enter Tryz.func193, Tryz.ntmps193
   go_wp2_with fail
   refine HTK.out.mono ?_
   rintro e w1 ⟨rfl, hw1⟩
   subst hw1
   clear HTK
   go_wp2
   refine bodyPost_ret (v := .tuple #[.slice none 0 0, .int .i64 2]) (by simp [results, go_sem]) rfl ⟨none, 0, 0, by rw [HRE.out]; rfl, by rw [HRE.out]; rfl, by rw [HRE.out]; exact Its.nil _ _, Below.refl _ _⟩
  ·rw [if_neg h20] at hre
   have h20i : ((2000 : Int) < (n : Int)) = False := eq_false (by omega)
   obtain ⟨A2, hA2⟩ : ∃ A2, (if c = sz then A else Option.map (fun x => x.add sz) A) = A2 := ⟨_, rfl⟩
   have hr2 := row_from hr (s := sz) (by omega) (A' := A2) (fun hlt => by rw [← hA2, if_neg (by omega)])
   have hszn : sz ≤ N := by omega
   have hszni : (sz : Int) ≤ (N : Int) := by omega
   have hszc : sz ≤ c := by omega
   have hszci : (sz : Int) ≤ (c : Int) := by omega
   have HRE := Lib.hid hre
   have HR2 := Lib.hid hr2
   clear htk hre hsz hr hr2 hszl
   go_enter Tryz.func193, Tryz.ntmps193
   go_wp2_with fail
   refine HTK.out.mono ?_
   rintro e w1 ⟨rfl, hw1⟩
   subst hw1
   clear HTK
   go_wp2_with fail
   go_loopw [0, 7, 28] (fun bv o i wr => ∃ (k m : Nat) (A3 : Option Addr) (c3 : Nat) (r : List UInt8) (out : List It) (A4 : Option Addr) (c4 : Nat), k ≤ n ∧ bv = .slice A3 m c3 ∧ o = .slice A4 k c4 ∧ i = .int .u64 (k : Int) ∧ Hid (It.takes n (b.drop sz) [] = It.takes (n - k) r out ∧ out.length = k ∧ Row w.heap.size wr A3 m 1 (bts r) ∧ m ≤ c3 ∧ c3 ≤ maxLen ∧ m ≤ N ∧ wr.ownsRow w.heap.size 27 5 (.slice A4 k c4) k (itc out)) ∧ Below w.heap.size w wr) (fun _ _ i _ => n - (intOf i).toNat)
   case atStart => exact ⟨0, N - sz, A2, c - sz, b.drop sz, [], none, 0, Nat.zero_le _, rfl, rfl, rfl, Lib.hid ⟨rfl, rfl, HR2.out, by omega, by unfold maxLen at *; omega, by omega, World.ownsRow_nil _ _ _ _⟩, Below.refl _ _⟩
   case round =>
    obtain ⟨k, m, A3, c3, r, out, A4, c4, hkn, rfl, rfl, rfl, HK, hbl⟩ := hrel
    by_cases hk : k < n
    ·have hki : (k : Int) < (n : Int) := by omega
     have hwk : IntKind.u64.wrap ((k : Int) + 1) = ((k + 1 : Nat) : Int) := by rw [IntKind.wrap_u64]; omega
     obtain ⟨h1, h2, h3, h4, h5, h6, h7⟩ := HK.out
     have hon := one_any A3 m c3 r wr (by omega) h4 h5 w.heap.size hbl.size h3
     rw [show n - k = (n - (k + 1)) + 1 by omega, It.takes_step] at h1
     have hb1 := fun w' => own_below (w' := w') h7
     generalize It.take1 r = Q at *
     obtain ⟨x, r2, er⟩ := Q
     simp only at h1
     have HON := Lib.hid hon
     have H1 := Lib.hid h1
     have HB1 := Lib.hid hb1
     clear hon h1 h3 h7 hb1
     go_wp2_with fail
     refine HON.out.mono ?_
     rintro e w2 ⟨A5, m5, c5, rfl, z1, z5, z2, z3, z4⟩
     have ho2 := HB1.out _ z4
     have hb2 := hbl.trans (z4.mono hbl.size)
     by_cases he : er = 0
     ·subst he
      have h1 := H1.out
      rw [if_pos rfl] at h1
      have hz4 := z4.mono hbl.size
      have hX1 := hz4.alloc hb2.size (.cells #[.int .i64 x.s, .int .i64 x.k, .int .u64 (x.t : Int), .int .u64 (x.v : Int), .int .i64 x.x] 27)
      have ho1 := ho2.alloc (.cells #[.int .i64 x.s, .int .i64 x.k, .int .u64 (x.t : Int), .int .u64 (x.v : Int), .int .i64 x.x] 27)
      have hx1 : BoxO (w2.alloc (.cells #[.int .i64 x.s, .int .i64 x.k, .int .u64 (x.t : Int), .int .u64 (x.v : Int), .int .i64 x.x] 27)) 27 w2.heap.size x.cells := BoxO.new w2 #[.int .i64 x.s, .int .i64 x.k, .int .u64 (x.t : Int), .int .u64 (x.v : Int), .int .i64 x.x] 27
      have b0 := hx1.cell 0
      have b1 := hx1.cell 1
      have b2 := hx1.cell 2
      have b3 := hx1.cell 3
      have b4 := hx1.cell 4
      simp only [It.cells, gE0, gE1] at b0 b1 b2 b3 b4
      have hsz1 : (w2.alloc (.cells #[.int .i64 x.s, .int .i64 x.k, .int .u64 (x.t : Int), .int .u64 (x.v : Int), .int .i64 x.x] 27)).heap.size = w2.heap.size + 1 := by simp
      have hX2 := hX1.alloc (by have := hb2.size; omega) (.cells #[.int .i64 x.s, .int .i64 x.k, .int .u64 (x.t : Int), .int .u64 (x.v : Int), .int .i64 x.x] 27)
      have ho3 := ho1.alloc (.cells #[.int .i64 x.s, .int .i64 x.k, .int .u64 (x.t : Int), .int .u64 (x.v : Int), .int .i64 x.x] 27)
      have hx2 : BoxO ((w2.alloc (.cells #[.int .i64 x.s, .int .i64 x.k, .int .u64 (x.t : Int), .int .u64 (x.v : Int), .int .i64 x.x] 27)).alloc (.cells #[.int .i64 x.s, .int .i64 x.k, .int .u64 (x.t : Int), .int .u64 (x.v : Int), .int .i64 x.x] 27)) 27 (w2.heap.size + 1) x.cells := by rw [← hsz1]; exact BoxO.new _ #[.int .i64 x.s, .int .i64 x.k, .int .u64 (x.t : Int), .int .u64 (x.v : Int), .int .i64 x.x] 27
      have hsz2 : ((w2.alloc (.cells #[.int .i64 x.s, .int .i64 x.k, .int .u64 (x.t : Int), .int .u64 (x.v : Int), .int .i64 x.x] 27)).alloc (.cells #[.int .i64 x.s, .int .i64 x.k, .int .u64 (x.t : Int), .int .u64 (x.v : Int), .int .i64 x.x] 27)).heap.size = w2.heap.size + 1 + 1 := by simp
      have HR := Lib.hid (irow_box hx2)
      have HO := Lib.hid ho3
      have HB := Lib.hid hX2
      have HS2 := Lib.hid (And.intro hsz2 hb2.size)
      have HZ := Lib.hid (And.intro z1 (And.intro z2 h1))
      have hitc : itc out ++ x.cells = itc (out ++ [x]) := by simp [itc]
      have HX := Lib.hid hitc
      have hk2 : k ≤ 2000 := by omega
      have H2 := Lib.hid h2
      clear hz4 hX1 ho1 hx1 hX2 ho3 hx2 hsz1 hsz2 ho2 hb2 z1 z4 h1 hitc H1 HB1 h2
      unfold It.val
      go_wp2_with (at_builtin; refine stop_in ?_)
      refine stop_out (wpList_app rfl (.tmp 39) (.tmp 41) _ rfl w.heap.size 27 i0 _ 5 40 Tryz.underlying24 hi0 hz0 hz1 hz2 rfl (by omega) wr HB.out (Nat.le_trans hbl.size HB.out.size) _ k (itc out) rfl HO.out _ _ 1 1 x.cells rfl HR.out (fun v hv => itc_one [x] v (by simpa [itc] using hv)) (k + 1) _ rfl HX.out (by unfold maxLen; omega) (by omega) ?_)
      intro A6 c6 w5 q1 q2 q3 q4 q5
      have HF := Lib.hid (And.intro q1 (HZ.out.1.below q2))
      have hbz := hbl.trans q2
      clear q1 q2 q3 HR HO HB b0 b1 b2 b3 b4
      go_wp2
      go_roundw
      case rel => exact ⟨k + 1, m5, A5, c5, r2, out ++ [x], A6, c6, by omega, rfl, rfl, by go_num, Lib.hid ⟨HZ.out.2.2, by rw [List.length_append, H2.out]; rfl, HF.out.2, HZ.out.2.1, by omega, by omega, HF.out.1⟩, hbz⟩
      case measure => simp [intOf]; omega
     ·have h1 := H1.out
      rw [if_neg he] at h1
      have he3 : ((er : Int) == 0) = false := by simp; omega
      have hR : R = ([], er) := by
       have := HRE.out
       rw [h1] at this
       rw [this, if_neg he]
      have HRR := Lib.hid hR
      clear h1 z1 z4 ho2 hR HON
      unfold It.val
      go_wp2
      refine bodyPost_ret (v := .tuple #[.slice none 0 0, .int .i64 (er : Int)]) (by simp [results, go_sem]) rfl ⟨none, 0, 0, by rw [HRR.out], by rw [HRR.out]; rfl, by rw [HRR.out]; exact Its.nil _ _, ?_⟩
      exact hb2.alloc hb2.size _
    ·obtain rfl : k = n := by omega
     have hki : ((k : Int) < (k : Int)) = False := eq_false (by omega)
     obtain ⟨h1, h2, h3, h4, h5, h6, h7⟩ := HK.out
     rw [Nat.sub_self] at h1
     have hre : R = if r = [] ∧ out.all It.ok = true then (out, 0) else ([], 3) := by
      have := HRE.out
      rw [h1] at this
      exact this
     have hrl := h3.btlen
     by_cases hm : 0 < m
     ·have hmi : (0 : Int) < (m : Int) := by omega
      rw [if_neg (fun h => by rw [h.1] at hrl; simp at hrl; omega)] at hre
      have HRR := Lib.hid hre
      clear h1 hre h3 h7
      go_wp2
      refine bodyPost_ret (v := .tuple #[.slice none 0 0, .int .i64 3]) (by simp [results, go_sem]) rfl ⟨none, 0, 0, by rw [HRR.out]; rfl, by rw [HRR.out]; rfl, by rw [HRR.out]; exact Its.nil _ _, hbl⟩
     ·have hmi : ((0 : Int) < (m : Int)) = False := eq_false (by omega)
      have hr0 : r = [] := List.length_eq_zero_iff.1 (by omega)
      have hal := iall_any A4 k c4 out wr (by omega) (Row.own h7)
      obtain ⟨ab, hab⟩ : ∃ ab, ab = out.all It.ok := ⟨_, rfl⟩
      rw [← hab] at hal hre
      simp only [hr0, true_and] at hre
      have HAL := Lib.hid hal
      obtain ⟨A5, c5, hv, hqc, hqm, hlow⟩ := own_form h7
      injection hv with e1 e2 e3
      subst e1 e3
      have h7b := fun w' => own_below (w' := w') h7
      have H7 := Lib.hid (And.intro h7b (And.intro hqc (And.intro hqm hlow)))
      have H2 := Lib.hid h2
      clear h1 h3 h7 h7b hal hab hlow hqc hqm h2
      cases ab with
      | true =>
       rw [if_pos rfl] at hre
       have HRR := Lib.hid hre
       clear hre
       go_wp2_with fail
       refine HAL.out.mono ?_
       rintro e w2 ⟨rfl, hb2⟩
       have hits : Its w.heap.size w2 A4 k c4 out := ⟨Row.own (H7.out.1 _ hb2), H7.out.2.1, H7.out.2.2.1, fun p hp => (H7.out.2.2.2 p hp).1⟩
       have HI := Lib.hid (And.intro hits (hbl.trans (hb2.mono hbl.size)))
       clear hits hb2 HAL H7
       go_wp2
       refine bodyPost_ret (v := .tuple #[.slice A4 k c4, .int .i64 0]) (by simp [results, go_sem]) rfl ⟨A4, k, c4, by rw [HRR.out]; rfl, by rw [HRR.out]; exact H2.out.symm, by rw [HRR.out]; exact HI.out.1, HI.out.2⟩
      | false =>
       rw [if_neg (by simp)] at hre
       have HRR := Lib.hid hre
       clear hre
       go_wp2_with fail
       refine HAL.out.mono ?_
       rintro e w2 ⟨rfl, hb2⟩
       have HI := Lib.hid (hbl.trans (hb2.mono hbl.size))
       clear hb2 HAL H7
       go_wp2
       refine bodyPost_ret (v := .tuple #[.slice none 0 0, .int .i64 3]) (by simp [results, go_sem]) rfl ⟨none, 0, 0, by rw [HRR.out]; rfl, by rw [HRR.out]; rfl, by rw [HRR.out]; exact Its.nil _ _, HI.out⟩
 ·rw [if_neg he] at hre
  have he3 : ((er : Int) == 0) = false := by simp; omega
  have HRE := Lib.hid hre
  clear htk hre hsz hr
  go_enter Tryz.func193, Tryz.ntmps193
  go_wp2_with fail
  refine HTK.out.mono ?_
  rintro e w1 ⟨rfl, hw1⟩
  subst hw1
  clear HTK
  go_wp2
  refine bodyPost_ret (v := .tuple #[.slice none 0 0, .int .i64 (er : Int)]) (by simp [results, go_sem]) rfl ⟨none, 0, 0, by rw [HRE.out], by rw [HRE.out]; rfl, by rw [HRE.out]; exact Its.nil _ _, Below.refl _ _⟩
end
section
open Go Go.RowKit
theorem step_appF {P : Program} {ops : Array Oper} {o : Oper} {a : Act} {w : World} {K : Act → World → Prop} {Q : Exit → Act → World → Prop} {E : Prop} (hgd : o.guard = none) (s x : Operand) (t : TypeId)
  (ho : o.op = .call { callee := .builtin .append, args := #[s, x], argTypes := #[t, t] })
  (base : Nat) (e : TypeId) (i : TypeInfo) (z : Value) (size bytes : Nat) (ht : P.underlying t = some (.slice e)) (hi : P.info? e = some i) (hz : i.zero = some z)
  (hsize : i.size = size) (hby : i.bytes = bytes) (hzs : z.cells.size = size) (hsz : 0 < size) (hbase : base ≤ w.heap.size) (v : Value) (n : Nat) (xs : List Value) (hs : a.eval s = v) (hown : w.ownsRow base e size v n xs)
  (B : Nat) (A : Option Addr) (m c : Nat) (hm : 0 < m) (news : List Value) (hx : a.eval x = .slice A m c) (hr : Row B w A m size news) (h1 : ∀ u ∈ news, u.oneCell' = true)
  (N : Nat) (X : List Value) (hN : n + m = N) (hX : xs ++ news = X) (h63 : N ≤ maxLen) (hbytes : N * bytes ≤ 140737488355328)
  (h : ∀ A' c' w', w'.ownsRow base e size (.slice A' N c') N X → w.grownBy w' v.ownBlock → N ≤ c' → c' ≤ maxLen → ((Value.slice A' N c').ownBlock = v.ownBlock ∨ (Value.slice A' N c').ownBlock = some w.heap.size) → K (a.put o.dst (.slice A' N c')) w') :
  if Region.wanted o (yielded ops a.tmps) = true then Oper.wp P o a w K Q else E := by
 have hw : Region.wanted o (yielded ops a.tmps) = true := by simp [Region.wanted, hgd]
 rw [if_pos hw]
 subst hN
 subst hX
 have hpos : 0 < news.length := by
  rw [hr.len]
  exact Nat.mul_pos hm hsz
 obtain ⟨a', rfl, _⟩ := hr.some_ hpos
 obtain ⟨v', w', hrun, h3, h4, _, h6⟩ := run_append_own_at (P := P) (ty := o.type) w base t e i z size bytes ht hi hz hsize hby hzs hsz v n xs hown a' m c news hr.len hr.cells h1 h63 hbytes hbase
 obtain ⟨A', c', rfl, h5, h7, _⟩ := own_form h3
 unfold Oper.wp execOp
 simp only [ho, resolve, invoke, builtin, Sem.run_bind, Sem.run_pure, Result.andThen_ok, List.map_toArray, List.map_cons, List.map_nil, hs, hx, hrun]
 exact h A' c' w' h3 h4 h5 h7 h6
end
section
open Go Go.RowKit Go.Maps
theorem info_turn : (Tryz.prog.info? 125).map (fun i => (i.zero, i.size, i.bytes)) = some (some (.agg #[.int .i64 0, .int .i64 0, .string ⟨#[]⟩, .string ⟨#[]⟩]), 4, 48) := by kernel_rfl
theorem grown_box {w3 w4 : World} {X : Dw} {S : Sd} {o : Obj} (h : DK w3 X S) (hg : ((w3.alloc o).drew).grownBy w4 X.tv.ownBlock) : BoxO w4 105 X.d (X.cells S) :=
 ((h.box.alloc o).drew).chg (Chg.of_grown (F := X.tv.ownBlock.toList) hg (fun b e => by simp [e])) (fun hm => (h.apart.tv _ (by simpa using hm)).1 rfl)
theorem upd_turnD {w3 w4 : World} {X : Dw} {S : Sd} {o : Obj} (h : DK w3 X S) (t : Tn) {v : Value} (hg : ((w3.alloc o).drew).grownBy w4 X.tv.ownBlock) (hown : w4.ownsRow 0 125 4 v (S.turns.length + 1) (S.turns.flatMap turnCells ++ turnCells t))
  (hob : v.ownBlock = X.tv.ownBlock ∨ v.ownBlock = some ((w3.alloc o).drew).heap.size) : DK (w4.setCell ⟨X.d, 4, none⟩ v) { X with tv := v } { S with turns := S.turns ++ [t] } ∧ Chg X.foot w3 (w4.setCell ⟨X.d, 4, none⟩ v) ∧ ∀ g ∈ ({ X with tv := v } : Dw).foot, g ∈ X.foot ∨ w3.heap.size ≤ g := by
 have hbox := grown_box h hg
 have ha := h.apart
 have hsz : ((w3.alloc o).drew).heap.size = w3.heap.size + 1 := by simp
 have hvd : ∀ g, v.ownBlock = some g → g ≠ X.d := fun g e e2 => by
  subst e2
  rcases hob with h1 | h1
  ·exact (ha.tv X.d (by rw [← h1, e])).1 rfl
  ·rw [e] at h1
   injection h1 with h1
   have := h.box.lt
   omega
 have hc1 : Chg X.tv.ownBlock.toList w3 w4 := ((Chg.refl _ w3).alloc o).drew.trans (Chg.of_grown (F := X.tv.ownBlock.toList) hg (fun b e => by simp [e])) (fun g hg => .inl hg)
 have hc2 : Chg ([X.d] ++ X.tv.ownBlock.toList) w3 (w4.setCell ⟨X.d, 4, none⟩ v) := (hc1.mono (fun g hg => .inl (List.mem_append_right _ hg))).setCell v (.inl (by simp))
 have hv : ∀ g, v.ownBlock = some g → X.tv.ownBlock = some g ∨ w3.heap.size ≤ g := fun g e => by
  rcases hob with h1 | h1
  ·exact .inl (by rw [← h1, e])
  ·rw [e] at h1
   injection h1 with h1
   exact .inr (by omega)
 have hdk := DK.setTurns (w' := w4.setCell ⟨X.d, 4, none⟩ v) (tv := v) (ts := S.turns ++ [t]) h (by
   have h1 := own_chg hown (chg_set w4 ⟨X.d, 4, none⟩ v) (fun g e hg => hvd g e (by simpa using hg))
   simpa using h1) hc2 hv (by
   have h1 := hbox.store 4 v
   exact h1)
 refine ⟨hdk, hc2.mono (fun g hg => .inl ?_), fun g hg => ?_⟩
 ·rcases List.mem_append.1 hg with h1 | h1
  ·rw [List.mem_singleton.1 h1]; exact mem_foot.2 (.inl rfl)
  ·exact mem_foot.2 (.inr (.inr (.inr (.inr (.inl (by simpa using h1))))))
 ·rcases mem_foot.1 hg with h1 | h1 | h1 | h1 | h1 | h1
  ·exact .inl (mem_foot.2 (.inl h1))
  ·exact .inl (mem_foot.2 (.inr (.inl h1)))
  ·exact .inl (mem_foot.2 (.inr (.inr (.inl h1))))
  ·exact .inl (mem_foot.2 (.inr (.inr (.inr (.inl h1)))))
  ·rcases hv g h1 with h2 | h2
   ·exact .inl (mem_foot.2 (.inr (.inr (.inr (.inr (.inl h2))))))
   ·exact .inr h2
  ·exact .inl (mem_foot.2 (.inr (.inr (.inr (.inr (.inr h1))))))
theorem upd_turn {w3 w4 : World} {X : Dw} {S : Sd} {o : Obj} (h : DK w3 X S) (t : Tn) {v : Value} (hg : ((w3.alloc o).drew).grownBy w4 X.tv.ownBlock) (hown : w4.ownsRow 0 125 4 v (S.turns.length + 1) (S.turns.flatMap turnCells ++ turnCells t))
  (hob : v.ownBlock = X.tv.ownBlock ∨ v.ownBlock = some ((w3.alloc o).drew).heap.size) : Upd X w3 (w4.setCell ⟨X.d, 4, none⟩ v) { S with turns := S.turns ++ [t] } :=
 let ⟨h1, h2, h3⟩ := upd_turnD h t hg hown hob
 ⟨{ X with tv := v }, rfl, h1, h2, h3⟩
theorem Upd.trans {X : Dw} {w w1 w2 : World} {S2 : Sd} {X1 : Dw} (e : X1.d = X.d) (c : Chg X.foot w w1) (hf : ∀ g ∈ X1.foot, g ∈ X.foot ∨ w.heap.size ≤ g) (h2 : Upd X1 w1 w2 S2) : Upd X w w2 S2 := by
 obtain ⟨X', e', h, c', hf'⟩ := h2
 refine ⟨X', e'.trans e, h, c.trans c' (fun g hg => hf g hg), fun g hg => ?_⟩
 rcases hf' g hg with h3 | h3
 ·exact hf g h3
 ·exact .inr (Nat.le_trans c.size h3)
theorem remove_any (X : Dw) (S : Sd) (s : ByteArray) (hs : s.size ≤ maxLen) (hw : S.Wf) (hl : S.load ≤ 1099511627776) (w : World) (h : DK w X S) :
  Calls Tryz.prog 100 #[.pointer (some ⟨X.d, 0, none⟩), .string s] w fun e w' => e = .returned (.int .i64 ((S.remove s.data.toList).2 : Int)) ∧ Upd X w w' (S.remove s.data.toList).1 := by
 have hcall := call1 X S s hs hw w h
 have hw1 := hw.call [s.data.toList]
 have hld := Sd.call_load S [s.data.toList]
 obtain ⟨e1, e2, e3, e4, e5, _, _⟩ := Sd.call_same S [s.data.toList]
 have hsy : S.remove s.data.toList = if (S.call [s.data.toList]).2 ≠ 0 then S.call [s.data.toList] else if (S.names.get s.data.toList).isNone then ((S.call [s.data.toList]).1, 11)
  else ({ (S.call [s.data.toList]).1 with names := Tn.go ⟨3, 0, s.data.toList, []⟩ S.names, turns := S.turns ++ [⟨3, 0, s.data.toList, []⟩] }, 0) := rfl
 generalize S.call [s.data.toList] = R at *
 obtain ⟨S1, er⟩ := R
 simp only at *
 by_cases h0 : er = 0
 ·subst h0
  rw [if_neg (by simp)] at hsy
  have hfd := fun w1 h1 => find_any X S1 s hs w1 h1 hw1.names
  cases h3 : S.names.get s.data.toList with
  | none =>
   simp only [h3, Option.isNone_none, if_true] at hsy
   rw [hsy]
   simp only [e1, h3] at hfd
   clear hsy h3 e1 e2 e3 e4 e5 hw1 hw h hld
   go_enter Tryz.func100, Tryz.ntmps100
   go_wp2_with fail
   refine hcall.mono ?_
   rintro e w1 ⟨rfl, h1, hc1⟩
   go_wp2_with fail
   refine (hfd w1 h1).mono ?_
   rintro e w2 ⟨rfl, rfl⟩
   go_wp2
   go_ret
   exact ⟨rfl, Upd.called h1 hc1⟩
  | some i =>
   simp only [h3, Option.isNone_some, Bool.false_eq_true, if_false] at hsy
   rw [hsy, ← e1, ← e4]
   simp only [e1, h3] at hfd
   have hml : S1.turns.length + 1 ≤ 1099511627777 := by unfold Sd.load at hld hl; omega
   clear hsy h3 e1 e2 e3 e4 e5 hw h hld
   go_enter Tryz.func100, Tryz.ntmps100
   go_wp2_with fail
   refine hcall.mono ?_
   rintro e w1 ⟨rfl, h1, hc1⟩
   go_wp2_with fail
   refine (hfd w1 h1).mono ?_
   rintro e w2 ⟨rfl, rfl⟩
   unfold ptrV
   go_wp2
   have hbV : Below w1.heap.size w1 (w1.alloc (.cells #[.int .i64 3, .int .i64 0, .string s, .string ⟨#[]⟩] 125)) := (Below.refl _ _).alloc (Nat.le_refl _) _
   have hbox := BoxO.new w1 #[.int .i64 3, .int .i64 0, .string s, .string ⟨#[]⟩] 125
   have hlt : w1.heap.size < (w1.alloc (.cells #[.int .i64 3, .int .i64 0, .string s, .string ⟨#[]⟩] 125)).heap.size := by simp
   have h2 := h1.below hbV
   have hup0 := Chg.of_below hbV X.foot
   generalize w1.alloc (.cells #[.int .i64 3, .int .i64 0, .string s, .string ⟨#[]⟩] 125) = V at *
   have c0 := hbox.cell 0
   have c1 := hbox.cell 1
   have c2 := hbox.cell 2
   have c3 := hbox.cell 3
   have d2 := h2.box.cell 2
   simp only [Dw.cells, gE0, gE1] at c0 c1 c2 c3 d2
   have htb := h1.lt
   have hnamed := Lib.hid h2.names
   have hsm : S1.names.length < maxLen := by have := hw1.most; unfold maxLen; omega
   generalize w1.heap.size = tb at *
   go_still_tail 5, (by kernel_rfl)
   change wpList _ _ _ _ _ (World.drew V)
   go_wp2_with fail
   have hdo := do_any 3 0 s.data.toList [] (by simpa using hs) (by simp) (by omega) X.nb S1.names.length S1.names V.drew hnamed.out.drew hsm (by omega)
   simp only [turnV, str_list] at hdo
   refine hdo.mono ?_
   rintro e w3 ⟨rfl, hn3, hc3⟩
   have hc3' : Chg [X.nb] V w3 := (Chg.refl [X.nb] V).drew.trans hc3 (fun g hg => .inl hg)
   have h3 := h2.setNames hn3 hc3'
   have hbox3 := hbox.chg hc3' (by simp; have := htb X.nb (mem_foot.2 (.inr (.inl rfl))); omega)
   have c0 := hbox3.cell 0
   have c1 := hbox3.cell 1
   have c2 := hbox3.cell 2
   have c3 := hbox3.cell 3
   have d4 := h3.box.cell 4
   have f4 := h3.box.free 4
   have hxd := h3.box.lt
   obtain ⟨tA, tc, htv, _, _, _⟩ := own_form h3.turns
   simp only [Dw.cells, gE0, gE1] at c0 c1 c2 c3 d4
   rw [htv] at d4
   clear d2 hnamed hdo hn3
   have hrow4 := own_base h3.turns (Nat.zero_le _)
   rw [htv] at hrow4
   have hpre := fun (o : Obj) (w4 : World) (hg : ((w3.alloc o).drew).grownBy w4 (Value.slice tA S1.turns.length tc).ownBlock) => (⟨(grown_box h3 (by rw [htv]; exact hg)).cell 4, (grown_box h3 (by rw [htv]; exact hg)).free 4⟩ : w4.cell? ⟨X.d, 4, none⟩ = _ ∧ w4.frozen? ⟨X.d, 4, none⟩ = false)
   have hpost := fun (o : Obj) (w4 : World) (v : Value) (hg : ((w3.alloc o).drew).grownBy w4 (Value.slice tA S1.turns.length tc).ownBlock) hown hob => upd_turn (o := o) (w4 := w4) (v := v) h3 ⟨3, 0, s.data.toList, []⟩ (by rw [htv]; exact hg) hown (by rw [htv]; exact hob)
   simp only [turnCells, str_list] at hpost
   have HPO := Lib.hid hpost
   have HPR := Lib.hid hpre
   have htr := fun (w5 : World) (S5 : Sd) (h : Upd X w3 w5 S5) => Upd.after hc1 (Upd.trans rfl (hup0.trans (hc3'.mono (fun g hg => .inl (by rw [List.mem_singleton.1 hg]; exact mem_foot.2 (.inr (.inl rfl))) : ∀ g ∈ [X.nb], g ∈ X.foot ∨ _)) (fun g hg => .inl hg)) (fun g hg => .inl hg) h)
   have HTR := Lib.hid htr
   clear hpost hpre htr
   obtain ⟨i0, hi0, hz0, hz1, hz2⟩ := info_parts info_turn
   go_wp2
   go_region_law (refine step_appF rfl (.tmp 30) (.tmp 32) _ rfl 0 125 i0 _ 4 48 Tryz.underlying103 hi0 hz0 hz1 hz2 rfl (by omega) (Nat.zero_le _) (.slice tA S1.turns.length tc) S1.turns.length _ rfl (hrow4.alloc _).drew _ (some ⟨w3.heap.size, 0, none⟩) 1 1 (by omega) [.int .i64 3, .int .i64 0, .string s, .string ⟨#[]⟩] rfl (Row.new w3 #[.int .i64 3, .int .i64 0, .string s, .string ⟨#[]⟩] 125 (n := 1) (size := 4) rfl).drew (by simp [Value.oneCell']) (S1.turns.length + 1) _ rfl rfl (by unfold maxLen; omega) (by omega) ?_; intro A4 c4 w4 hown4 hg4 _ _ hob4; obtain ⟨q4, q5⟩ := HPR.out _ _ hg4; have HO := Lib.hid (HTR.out _ _ (HPO.out _ _ _ hg4 hown4 hob4)); clear hg4 hown4 hob4; simp only [Dw.cells, gE0, gE1] at q4)
   all_goals
    go_wp2
    go_ret
    exact ⟨rfl, HO.out⟩
 ·have hne := neq0 h0
  rw [if_pos h0] at hsy
  rw [hsy]
  clear hsy e1 e2 e3 e4 e5 h0 hld
  go_enter Tryz.func100, Tryz.ntmps100
  go_wp2_with fail
  refine hcall.mono ?_
  rintro e w1 ⟨rfl, h1, hc1⟩
  go_wp2
  go_ret
  exact ⟨rfl, Upd.called h1 hc1⟩
end
section
open Go Go.RowKit Go.Maps
theorem call2 (X : Dw) (S : Sd) (s u : ByteArray) (hs : s.size ≤ maxLen) (hu : u.size ≤ maxLen) (hw : S.Wf) (w : World) (h : DK w X S) :
  Calls Tryz.prog 157 #[.pointer (some ⟨X.d, 0, none⟩), .slice (some ⟨w.heap.size, 0, none⟩) 2 2] (w.alloc (.cells #[.string s, .string u] 9)) fun e w' => e = .returned (.int .i64 ((S.call [s.data.toList, u.data.toList]).2 : Int)) ∧ DK w' X (S.call [s.data.toList, u.data.toList]).1 ∧ Chg [X.d] w w' := by
 have hb : Below w.heap.size w (w.alloc (.cells #[.string s, .string u] 9)) := (Below.refl _ _).alloc (Nat.le_refl _) _
 refine (call_any X S (some ⟨w.heap.size, 0, none⟩) 2 2 [s, u] (by omega) (by simp; exact ⟨hs, hu⟩) hw.stop hw.fail _ (h.below hb) ?_).mono ?_
 ·exact (Row.new w #[.string s, .string u] 9 (n := 2) (size := 1) rfl).up (by simp)
 ·rintro e w' ⟨rfl, h1, h2⟩
  exact ⟨rfl, h1, (Chg.of_below hb [X.d]).trans h2 (fun g hg => .inl hg)⟩
theorem rename_any (X : Dw) (S : Sd) (s u : ByteArray) (hs : s.size ≤ maxLen) (hu : u.size ≤ maxLen) (hw : S.Wf) (hl : S.load ≤ 1099511627776) (w : World) (h : DK w X S) :
  Calls Tryz.prog 201 #[.pointer (some ⟨X.d, 0, none⟩), .string s, .string u] w fun e w' => e = .returned (.int .i64 ((S.rename s.data.toList u.data.toList).2 : Int)) ∧ Upd X w w' (S.rename s.data.toList u.data.toList).1 := by
 have hcall := call2 X S s u hs hu hw w h
 have hw1 := hw.call [s.data.toList, u.data.toList]
 have hld := Sd.call_load S [s.data.toList, u.data.toList]
 obtain ⟨e1, e2, e3, e4, e5, _, _⟩ := Sd.call_same S [s.data.toList, u.data.toList]
 have hsy : S.rename s.data.toList u.data.toList = if (S.call [s.data.toList, u.data.toList]).2 ≠ 0 then S.call [s.data.toList, u.data.toList] else if (S.names.get s.data.toList).isNone then ((S.call [s.data.toList, u.data.toList]).1, 11)
  else if s.data.toList = u.data.toList then ((S.call [s.data.toList, u.data.toList]).1, 0)
  else ({ (S.call [s.data.toList, u.data.toList]).1 with names := Tn.go ⟨2, 0, s.data.toList, u.data.toList⟩ S.names, turns := S.turns ++ [⟨2, 0, s.data.toList, u.data.toList⟩] }, 0) := rfl
 generalize S.call [s.data.toList, u.data.toList] = R at *
 obtain ⟨S1, er⟩ := R
 simp only at *
 by_cases h0 : er = 0
 ·subst h0
  rw [if_neg (by simp)] at hsy
  have hfd := fun w1 h1 => find_any X S1 s hs w1 h1 hw1.names
  cases h3 : S.names.get s.data.toList with
  | none =>
   simp only [h3, Option.isNone_none, if_true] at hsy
   rw [hsy]
   simp only [e1, h3] at hfd
   clear hsy h3 e1 e2 e3 e4 e5 hw1 hw h hld
   go_enter Tryz.func201, Tryz.ntmps201
   go_wp2_with fail
   refine hcall.mono ?_
   rintro e w1 ⟨rfl, h1, hc1⟩
   go_wp2_with fail
   refine (hfd w1 h1).mono ?_
   rintro e w2 ⟨rfl, rfl⟩
   go_wp2
   go_ret
   exact ⟨rfl, Upd.called h1 hc1⟩
  | some i =>
   simp only [h3, Option.isNone_some, Bool.false_eq_true, if_false] at hsy
   by_cases hab : s = u
   ·subst hab
    rw [if_pos rfl] at hsy
    rw [hsy]
    simp only [e1, h3] at hfd
    clear hsy h3 e1 e2 e3 e4 e5 hw1 hw h hld
    go_enter Tryz.func201, Tryz.ntmps201
    go_wp2_with fail
    refine hcall.mono ?_
    rintro e w1 ⟨rfl, h1, hc1⟩
    go_wp2_with fail
    refine (hfd w1 h1).mono ?_
    rintro e w2 ⟨rfl, rfl⟩
    unfold ptrV
    go_wp2
    go_ret
    exact ⟨rfl, Upd.called h1 hc1⟩
   have hab' : ¬s.data.toList = u.data.toList := fun e => hab (by rw [← str_list s, e, str_list])
   rw [if_neg hab'] at hsy
   have hbeq : (s.toList == u.toList) = false := by
    rw [ByteArray.toList_eq, ByteArray.toList_eq]
    simpa using hab'
   clear hab hab'
   rw [hsy, ← e1, ← e4]
   simp only [e1, h3] at hfd
   have hml : S1.turns.length + 1 ≤ 1099511627777 := by unfold Sd.load at hld hl; omega
   clear hsy h3 e1 e2 e3 e4 e5 hw h hld
   go_enter Tryz.func201, Tryz.ntmps201
   go_wp2_with fail
   refine hcall.mono ?_
   rintro e w1 ⟨rfl, h1, hc1⟩
   go_wp2_with fail
   refine (hfd w1 h1).mono ?_
   rintro e w2 ⟨rfl, rfl⟩
   unfold ptrV
   go_wp2
   have hbV : Below w1.heap.size w1 (w1.alloc (.cells #[.int .i64 2, .int .i64 0, .string s, .string u] 125)) := (Below.refl _ _).alloc (Nat.le_refl _) _
   have hbox := BoxO.new w1 #[.int .i64 2, .int .i64 0, .string s, .string u] 125
   have hlt : w1.heap.size < (w1.alloc (.cells #[.int .i64 2, .int .i64 0, .string s, .string u] 125)).heap.size := by simp
   have h2 := h1.below hbV
   have hup0 := Chg.of_below hbV X.foot
   generalize w1.alloc (.cells #[.int .i64 2, .int .i64 0, .string s, .string u] 125) = V at *
   have c0 := hbox.cell 0
   have c1 := hbox.cell 1
   have c2 := hbox.cell 2
   have c3 := hbox.cell 3
   have d2 := h2.box.cell 2
   simp only [Dw.cells, gE0, gE1] at c0 c1 c2 c3 d2
   have htb := h1.lt
   have hnamed := Lib.hid h2.names
   have hsm : S1.names.length < maxLen := by have := hw1.most; unfold maxLen; omega
   generalize w1.heap.size = tb at *
   go_still_tail 5, (by kernel_rfl)
   change wpList _ _ _ _ _ (World.drew V)
   go_wp2_with fail
   have hdo := do_any 2 0 s.data.toList u.data.toList (by simpa using hs) (by simpa using hu) (by omega) X.nb S1.names.length S1.names V.drew hnamed.out.drew hsm (by omega)
   simp only [turnV, str_list] at hdo
   refine hdo.mono ?_
   rintro e w3 ⟨rfl, hn3, hc3⟩
   have hc3' : Chg [X.nb] V w3 := (Chg.refl [X.nb] V).drew.trans hc3 (fun g hg => .inl hg)
   have h3 := h2.setNames hn3 hc3'
   have hbox3 := hbox.chg hc3' (by simp; have := htb X.nb (mem_foot.2 (.inr (.inl rfl))); omega)
   have c0 := hbox3.cell 0
   have c1 := hbox3.cell 1
   have c2 := hbox3.cell 2
   have c3 := hbox3.cell 3
   have d4 := h3.box.cell 4
   have f4 := h3.box.free 4
   have hxd := h3.box.lt
   obtain ⟨tA, tc, htv, _, _, _⟩ := own_form h3.turns
   simp only [Dw.cells, gE0, gE1] at c0 c1 c2 c3 d4
   rw [htv] at d4
   clear d2 hnamed hdo hn3
   have hrow4 := own_base h3.turns (Nat.zero_le _)
   rw [htv] at hrow4
   have hpre := fun (o : Obj) (w4 : World) (hg : ((w3.alloc o).drew).grownBy w4 (Value.slice tA S1.turns.length tc).ownBlock) => (⟨(grown_box h3 (by rw [htv]; exact hg)).cell 4, (grown_box h3 (by rw [htv]; exact hg)).free 4⟩ : w4.cell? ⟨X.d, 4, none⟩ = _ ∧ w4.frozen? ⟨X.d, 4, none⟩ = false)
   have hpost := fun (o : Obj) (w4 : World) (v : Value) (hg : ((w3.alloc o).drew).grownBy w4 (Value.slice tA S1.turns.length tc).ownBlock) hown hob => upd_turn (o := o) (w4 := w4) (v := v) h3 ⟨2, 0, s.data.toList, u.data.toList⟩ (by rw [htv]; exact hg) hown (by rw [htv]; exact hob)
   simp only [turnCells, str_list] at hpost
   have HPO := Lib.hid hpost
   have HPR := Lib.hid hpre
   have htr := fun (w5 : World) (S5 : Sd) (h : Upd X w3 w5 S5) => Upd.after hc1 (Upd.trans rfl (hup0.trans (hc3'.mono (fun g hg => .inl (by rw [List.mem_singleton.1 hg]; exact mem_foot.2 (.inr (.inl rfl))) : ∀ g ∈ [X.nb], g ∈ X.foot ∨ _)) (fun g hg => .inl hg)) (fun g hg => .inl hg) h)
   have HTR := Lib.hid htr
   clear hpost hpre htr
   obtain ⟨i0, hi0, hz0, hz1, hz2⟩ := info_parts info_turn
   go_wp2
   go_region_law (refine step_appF rfl (.tmp 39) (.tmp 41) _ rfl 0 125 i0 _ 4 48 Tryz.underlying103 hi0 hz0 hz1 hz2 rfl (by omega) (Nat.zero_le _) (.slice tA S1.turns.length tc) S1.turns.length _ rfl (hrow4.alloc _).drew _ (some ⟨w3.heap.size, 0, none⟩) 1 1 (by omega) [.int .i64 2, .int .i64 0, .string s, .string u] rfl (Row.new w3 #[.int .i64 2, .int .i64 0, .string s, .string u] 125 (n := 1) (size := 4) rfl).drew (by simp [Value.oneCell']) (S1.turns.length + 1) _ rfl rfl (by unfold maxLen; omega) (by omega) ?_; intro A4 c4 w4 hown4 hg4 _ _ hob4; obtain ⟨q4, q5⟩ := HPR.out _ _ hg4; have HO := Lib.hid (HTR.out _ _ (HPO.out _ _ _ hg4 hown4 hob4)); clear hg4 hown4 hob4; simp only [Dw.cells, gE0, gE1] at q4)
   all_goals
    go_wp2
    go_ret
    exact ⟨rfl, HO.out⟩
 ·have hne := neq0 h0
  rw [if_pos h0] at hsy
  rw [hsy]
  clear hsy e1 e2 e3 e4 e5 h0 hld
  go_enter Tryz.func201, Tryz.ntmps201
  go_wp2_with fail
  refine hcall.mono ?_
  rintro e w1 ⟨rfl, h1, hc1⟩
  go_wp2
  go_ret
  exact ⟨rfl, Upd.called h1 hc1⟩
end
end Go.Proofs.YtdkjoigpahafmaaGreatDoor
