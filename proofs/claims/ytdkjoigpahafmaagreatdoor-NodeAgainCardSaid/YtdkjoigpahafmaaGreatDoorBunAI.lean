/- Texts StateI, StateJ, StateK, StateL, RefI, RefJ, RefN, SkipF, ItemK, HashA, AtomI, MemA, ItemL, PlainOne in one. No conditions. -/
import Derived.Test.YtdkjoigpahafmaaGreatDoorBunAH
import Derived.Test.YtdkjoigpahafmaaGreatDoorBunAA
import Derived.Test.YtdkjoigpahafmaaGreatDoorBunAD
import Derived.Test.YtdkjoigpahafmaaGreatDoorRows
import Derived.BigQuiet
import Derived.Lib.Hide
import Derived.WalkKit
import Derived.WalkSpells
import Derived.WalkLawsBesides
import Derived.Deep.RegionWith
import Derived.Lib.MinMax
import Derived.Laws.StructEq
import Derived.Test.YtdkjoigpahafmaaGreatDoorBunAE
import Derived.Test.YtdkjoigpahafmaaGreatDoorBunAC
import Derived.Tactics
import Derived.Tactics2
import Derived.Laws.Pointers
import Derived.Laws.LoneSync
import Derived.Test.YtdkjoigpahafmaaGreatDoorBunAF
import Derived.Deep.RegionHeld3

set_option linter.unusedSimpArgs false
set_option linter.unusedVariables false
set_option maxRecDepth 100000
set_option maxHeartbeats 16000000
namespace Go.Proofs.YtdkjoigpahafmaaGreatDoor
section
open Go Go.RowKit Go.Lib
theorem joins_take {a b : List It} {k : Nat} (h : k < b.length) : joins a (b.take (k + 1)) = add (joins a (b.take k)) b[k] := by
 unfold joins
 rw [List.take_succ_eq_append_getElem h, List.foldl_append]
 rfl
def JoinPost (w : World) (R : List It) (e : Ending) (w' : World) : Prop := ∃ A' k, e = .returned (.slice A' k k) ∧ k = R.length ∧ Its w.heap.size w' A' k k R ∧ Below w.heap.size w w'
theorem join_any (A : Option Addr) (n c : Nat) (a : List It) (B : Option Addr) (m d : Nat) (b : List It) (w : World) (hsz : n + m ≤ 900000) (hnc : n ≤ c) (hcm : c ≤ maxLen) (hS : Stt a) (ra : Row w.heap.size w A n 5 (itc a)) (rb : Row w.heap.size w B m 5 (itc b)) :
  Calls Tryz.prog 29 #[.slice A n c, .slice B m d] w (JoinPost w (joins a b)) := by
 have hna := ra.itlen
 have hmb := rb.itlen
 have how := own_any A n c a w (by omega) ra
 have hok := fun W (hb : Below w.heap.size w W) => sok_any A n c a W (by omega) hnc hcm hS ((ra.below hb).up hb.size)
 obtain ⟨R, hR⟩ : ∃ R, R = joins a b := ⟨_, rfl⟩
 rw [← hR]
 have HR := Lib.hid hR
 have HOW := Lib.hid how
 have HOK := Lib.hid hok
 have HS := Lib.hid hS
 clear how hok hR hS ra
 go_enter Tryz.func29, Tryz.ntmps29
 go_wp2_with fail
 refine HOW.out.mono ?_
 rintro e w1 ⟨A1, c1, rfl, ho1, hb1⟩
 have HO1 := Lib.hid ho1
 clear HOW ho1
 go_wp2_with fail
 refine (HOK.out _ hb1).mono ?_
 rintro e w2 ⟨rfl, hb2⟩
 have hb3 := later_ hb1 hb2
 have ho2 := own_below HO1.out hb2
 have HO2 := Lib.hid ho2
 clear ho2 HO1 hb1 hb2 HOK
 go_wp2_with fail
 go_loopw [5, 17] (fun v i wr => ∃ (k q : Nat) (A2 : Option Addr) (c2 : Nat), k ≤ m ∧ v = .slice A2 q c2 ∧ i = .int .i64 (k : Int) ∧ Hid (q = (joins a (b.take k)).length ∧ wr.ownsRow w.heap.size 27 5 (.slice A2 q c2) q (itc (joins a (b.take k)))) ∧ Below w.heap.size w wr) (fun _ i _ => m - (intOf i).toNat)
 case atStart => exact ⟨0, n, A1, c1, Nat.zero_le _, rfl, rfl, Lib.hid ⟨hna.symm, HO2.out⟩, hb3⟩
 case round =>
  obtain ⟨k, q, A2, c2, hk, rfl, rfl, HQ, hbl⟩ := hrel
  clear HO2 hb3
  by_cases hlt : k < m
  ·obtain ⟨p, hl, rfl, hbk, c0, c1, c2', c3, c4⟩ := (rb.below hbl).it hlt
   have hjt := joins_take (a := a) hl
   have hst := (joins_stt (b.take k) HS.out).1
   have hjl := joins_len (b.take k) a
   rw [List.length_take] at hjl
   have hq1 := HQ.out.1
   have hoV := own_below HQ.out.2 ((Below.refl wr.heap.size wr).alloc (Nat.le_refl _) (.cells #[.int .i64 (b[k]).s, .int .i64 (b[k]).k, .int .u64 ((b[k]).t : Int), .int .u64 ((b[k]).v : Int), .int .i64 (b[k]).x] 27))
   have hsa := sadd_any w.heap.size A2 q c2 _ b[k] _ (by omega) (Nat.le_trans hbl.size (by simp)) hst hoV
   rw [← hjt] at hsa
   generalize b[k] = x at *
   unfold It.val at hsa
   have hbV := hbl.alloc hbl.size (.cells #[.int .i64 x.s, .int .i64 x.k, .int .u64 (x.t : Int), .int .u64 (x.v : Int), .int .i64 x.x] 27)
   have HSA := Lib.hid (And.intro hsa hbV)
   clear hsa hbV hoV hst hjt hjl hq1
   go_wp2_with fail
   refine HSA.out.1.mono ?_
   rintro e w5 ⟨k5, A5, c5, rfl, hk5, ho5, hb5⟩
   have H5 := Lib.hid (And.intro (And.intro hk5 ho5) (HSA.out.2.trans hb5))
   clear hk5 ho5 hb5 HSA HQ
   go_wp2
   go_roundw
   case rel => exact ⟨k + 1, k5, A5, c5, by omega, rfl, by go_num, Lib.hid H5.out.1, H5.out.2⟩
   case measure => simp [intOf]; omega
  ·have hall : joins a (b.take k) = R := by rw [List.take_of_length_le (by omega), HR.out]
   have hq := HQ.out
   rw [hall] at hq
   obtain ⟨A3, c3, hv, hqc, hqm, hlow⟩ := own_form hq.2
   injection hv with e1 e2 e3
   subst e1 e3
   have hits : Its w.heap.size wr A2 q q R := ⟨Row.own hq.2, Nat.le_refl _, Nat.le_trans hqc hqm, fun p hp => (hlow p hp).1⟩
   have hcl := iclip_any A2 q c2 wr hqc
   have HF := Lib.hid (And.intro hq.1 hits)
   have HCL := Lib.hid hcl
   clear hcl hits hq hall hlow hqc hqm
   go_wp2_with fail
   refine HCL.out.mono ?_
   rintro e w6 ⟨rfl, rfl⟩
   go_wp2
   go_ret
   exact ⟨A2, q, rfl, HF.out.1, HF.out.2, hbl⟩
end
section
open Go Go.RowKit Go.Lib
theorem irow_box {w : World} {vb : Nat} {x : It} (hv : BoxO w 27 vb x.cells) : Row w.heap.size w (some ⟨vb, 0, none⟩) 1 5 x.cells := ⟨rfl, fun j hj => ⟨_, rfl, hv.lt, by
 rw [show ((⟨vb, 0, none⟩ : Addr).add j) = ⟨vb, j, none⟩ by rw [Addr.add_lit, Nat.zero_add], hv.cell]
 exact List.getElem?_eq_getElem hj⟩⟩
theorem only_any (K : Nat) (hF : ∀ args w, (callFunc K args).run Tryz.prog w = .ok (.enter K args) w) (capt : Array Value) (P : It → Bool) (A : Option Addr) (n c : Nat) (l : List It) (w : World) (hn : n ≤ 1000000) (hr : Row w.heap.size w A n 5 (itc l))
  (hK : ∀ x w1, Below w.heap.size w w1 → Calls Tryz.prog K (#[x.val] ++ capt) w1 fun e w' => e = .returned (.bool (P x)) ∧ Below w1.heap.size w1 w') :
  Calls Tryz.prog 110 #[.slice A n c, .func (.func K) #[] capt] w (JoinPost w (l.filter P)) := by
 have hnn := hr.itlen
 obtain ⟨i0, hi0, hz0, hz1, hz2⟩ := info_parts info_item
 have HF := Lib.hid hF
 have HK := Lib.hid hK
 clear hF hK
 go_enter Tryz.func110, Tryz.ntmps110
 go_wp2
 go_loopw [5, 10] (fun v i wr => ∃ (k q : Nat) (A2 : Option Addr) (c2 : Nat), k ≤ n ∧ v = .slice A2 q c2 ∧ i = .int .i64 (k : Int) ∧ Hid (q = ((l.take k).filter P).length ∧ wr.ownsRow w.heap.size 27 5 (.slice A2 q c2) q (itc ((l.take k).filter P))) ∧ Below w.heap.size w wr) (fun _ i _ => n - (intOf i).toNat)
 case atStart => exact ⟨0, 0, none, 0, Nat.zero_le _, rfl, rfl, Lib.hid ⟨rfl, World.ownsRow_nil _ _ _ _⟩, Below.refl _ _⟩
 case round =>
  obtain ⟨k, q, A2, c2, hk, rfl, rfl, HQ, hbl⟩ := hrel
  by_cases hlt : k < n
  ·obtain ⟨p, hl, rfl, hbk, c0, c1, c2', c3, c4⟩ := (hr.below hbl).it hlt
   have hft := filt_take (P := P) hl
   have hql : q ≤ 1000000 := by
    have h1 := HQ.out.1
    have h2 := List.length_filter_le P (l.take k)
    rw [List.length_take] at h2
    omega
   generalize l[k] = x at *
   have hbV := hbl.alloc hbl.size (.cells #[.int .i64 x.s, .int .i64 x.k, .int .u64 (x.t : Int), .int .u64 (x.v : Int), .int .i64 x.x] 27)
   have hbo := (Below.refl wr.heap.size wr).alloc (Nat.le_refl _) (.cells #[.int .i64 x.s, .int .i64 x.k, .int .u64 (x.t : Int), .int .u64 (x.v : Int), .int .i64 x.x] 27)
   have hbx : BoxO (wr.alloc (.cells #[.int .i64 x.s, .int .i64 x.k, .int .u64 (x.t : Int), .int .u64 (x.v : Int), .int .i64 x.x] 27)) 27 wr.heap.size x.cells := BoxO.new wr #[.int .i64 x.s, .int .i64 x.k, .int .u64 (x.t : Int), .int .u64 (x.v : Int), .int .i64 x.x] 27
   have hkk := HK.out x _ hbV
   unfold It.val at hkk
   obtain ⟨b, hb⟩ : ∃ b, b = P x := ⟨_, rfl⟩
   rw [← hb] at hkk hft
   have HKK := Lib.hid hkk
   have HFT := Lib.hid hft
   clear hkk hft hb
   go_wp2_with fail
   rw [HF.out, Oper.upon_enter]
   refine HKK.out.mono ?_
   rintro e w2 ⟨rfl, hb2⟩
   have hb3 := later_ hbV (hb2)
   have ho3 := own_below (own_below HQ.out.2 hbo) hb2
   have hbx2 := hbx.below hb2
   generalize wr.heap.size = g at *
   cases b with
   | false =>
    have H3 := Lib.hid (And.intro (show q = ((l.take (k + 1)).filter P).length by rw [HFT.out]; simpa using HQ.out.1) (show w2.ownsRow w.heap.size 27 5 (.slice A2 q c2) q (itc ((l.take (k + 1)).filter P)) by rw [HFT.out]; simpa using ho3))
    clear HKK HFT HQ ho3 hbx hbx2 hbo c0 c1 c2' c3 c4
    go_wp2
    go_roundw
    case rel => exact ⟨k + 1, q, A2, c2, by omega, rfl, by go_num, H3.out, hb3⟩
    case measure => simp [intOf]; omega
   | true =>
    have b0 := hbx2.cell 0
    have b1 := hbx2.cell 1
    have b2 := hbx2.cell 2
    have b3 := hbx2.cell 3
    have b4 := hbx2.cell 4
    simp only [It.cells, gE0, gE1] at b0 b1 b2 b3 b4
    have hvb : BoxO (w2.alloc (.cells #[.int .i64 x.s, .int .i64 x.k, .int .u64 (x.t : Int), .int .u64 (x.v : Int), .int .i64 x.x] 27)) 27 w2.heap.size x.cells := BoxO.new w2 #[.int .i64 x.s, .int .i64 x.k, .int .u64 (x.t : Int), .int .u64 (x.v : Int), .int .i64 x.x] 27
    have hbA := (Below.refl w2.heap.size w2).alloc (Nat.le_refl _) (.cells #[.int .i64 x.s, .int .i64 x.k, .int .u64 (x.t : Int), .int .u64 (x.v : Int), .int .i64 x.x] 27)
    have ho4 := own_below ho3 hbA
    have hb4 := later_ hb3 hbA
    have hrow := irow_box hvb
    have HX := Lib.hid (show itc ((l.take k).filter P) ++ x.cells = itc ((l.take (k + 1)).filter P) by rw [HFT.out, if_pos rfl, itc_append]; simp [itc])
    have HQ1 := Lib.hid (show q + 1 = ((l.take (k + 1)).filter P).length by rw [HFT.out, if_pos rfl, List.length_append, ← HQ.out.1]; rfl)
    have HR := Lib.hid hrow
    have HO := Lib.hid ho4
    have HB := Lib.hid hb4
    clear HKK HFT HQ ho3 ho4 hbx hbx2 hbo c0 c1 c2' c3 c4 hrow hvb hbA hb4
    go_wp2_with (at_builtin; refine stop_in ?_)
    refine stop_out (wpList_app rfl (.tmp 17) (.tmp 19) _ rfl w.heap.size 27 i0 _ 5 40 Tryz.underlying24 hi0 hz0 hz1 hz2 rfl (by omega) w HB.out HB.out.size _ q (itc ((l.take k).filter P)) rfl HO.out (w2.alloc (.cells #[.int .i64 x.s, .int .i64 x.k, .int .u64 (x.t : Int), .int .u64 (x.v : Int), .int .i64 x.x] 27)).heap.size _ 1 1 x.cells rfl HR.out (fun v hv => itc_one [x] v (by simpa [itc] using hv)) (q + 1) _ rfl HX.out (by unfold maxLen; omega) (by omega) ?_)
    intro A3 c3 w5 h1 h2 h3 h4 h5
    have H5 := Lib.hid (And.intro HQ1.out h1)
    clear h1 h3 HQ1 HX HR HO HB b0 b1 b2 b3 b4
    go_wp2
    go_roundw
    case rel => exact ⟨k + 1, q + 1, A3, c3, by omega, rfl, by go_num, H5.out, h2⟩
    case measure => simp [intOf]; omega
  ·have hall : l.take k = l := List.take_of_length_le (by omega)
   have hq := HQ.out
   rw [hall] at hq
   obtain ⟨A3, c3, hv, hqc, hqm, hlow⟩ := own_form hq.2
   injection hv with e1 e2 e3
   subst e1 e3
   have hits : Its w.heap.size wr A2 q q (l.filter P) := ⟨Row.own hq.2, Nat.le_refl _, Nat.le_trans hqc hqm, fun p hp => (hlow p hp).1⟩
   have hcl := iclip_any A2 q c2 wr hqc
   have HFF := Lib.hid (And.intro hq.1 hits)
   have HCL := Lib.hid hcl
   clear hcl hits hq hall hlow hqc hqm HQ
   go_wp2_with fail
   refine HCL.out.mono ?_
   rintro e w6 ⟨rfl, rfl⟩
   go_wp2
   go_ret
   exact ⟨A2, q, rfl, HFF.out.1, HFF.out.2, hbl⟩
end
section
open Go Go.RowKit Go.Lib
theorem series1_any (a : It) (s : Int) (b : Nat) (w : World) (hc : w.cell? ⟨b, 0, none⟩ = some (.int .i64 s)) :
  Calls Tryz.prog 178 (#[a.val] ++ #[.pointer (some ⟨b, 0, none⟩)]) w fun e w' => e = .returned (.bool (a.s == s)) ∧ Below w.heap.size w w' := by
 have hb0 := (Below.refl w.heap.size w).alloc (Nat.le_refl _) (.cells #[.int .i64 a.s, .int .i64 a.k, .int .u64 (a.t : Int), .int .u64 (a.v : Int), .int .i64 a.x] 27)
 have hc1 : ∀ o, (w.alloc o).cell? ⟨b, 0, none⟩ = some (.int .i64 s) := fun o => (World.cell?_alloc_lt w o _ (World.block_lt_of_cell? w _ hc)).trans hc
 unfold It.val
 go_enter Tryz.func178, Tryz.ntmps178
 go_wp2
 go_ret
 exact ⟨rfl, hb0⟩
theorem sseries_any (A : Option Addr) (n c : Nat) (l : List It) (s : Int) (w : World) (hn : n ≤ 1000000) (hr : Row w.heap.size w A n 5 (itc l)) :
  Calls Tryz.prog 108 #[.slice A n c, .int .i64 s] w (JoinPost w (l.filter fun a => a.s == s)) := by
 have hbV := (Below.refl w.heap.size w).alloc (Nat.le_refl _) (.cells #[.int .i64 s] 3)
 have hbx := BoxO.new w #[.int .i64 s] 3
 have ho := only_any 178 (fun _ _ => rfl) #[.pointer (some ⟨w.heap.size, 0, none⟩)] (fun a => a.s == s) A n c l (w.alloc (.cells #[.int .i64 s] 3)) hn ((hr.below hbV).up hbV.size)
  (fun x w1 hw => series1_any x s w.heap.size w1 (by rw [(hbx.below hw).cell]; rfl))
 have HO := Lib.hid ho
 clear ho hr hbx
 go_enter Tryz.func108, Tryz.ntmps108
 go_wp2_with fail
 refine HO.out.mono ?_
 rintro e w1 ⟨A1, k, rfl, h1, h2, h3⟩
 have H := Lib.hid (show JoinPost w (l.filter fun a => a.s == s) (.returned (.slice A1 k k)) w1 from ⟨A1, k, rfl, h1, ⟨h2.row, h2.nc, h2.cm, fun p hp => Nat.le_trans hbV.size (h2.low p hp)⟩, later_ hbV h3⟩)
 clear h1 h2 h3 HO hbV
 go_wp2
 go_ret
 exact H.out
end
section
open Go Go.RowKit Go.Lib
end
section
open Go Go.RowKit
end
section
open Go Go.RowKit Go.Lib
theorem it_neq (x y : It) (w : World) : (binOp .neq 27 (.agg #[.int .i64 x.s, .int .i64 x.k, .int .u64 (x.t : Int), .int .u64 (x.v : Int), .int .i64 x.x]) (.agg #[.int .i64 y.s, .int .i64 y.k, .int .u64 (y.t : Int), .int .u64 (y.v : Int), .int .i64 y.x])).run Tryz.prog w = .ok (.bool (!decide (x = y))) w := by
 have u3 := Tryz.underlying3
 have a3 := Tryz.isAgg3
 have z3 := Tryz.sizeOf3
 have u4 := Tryz.underlying25
 have a4 := Tryz.isAgg25
 have z4 := Tryz.sizeOf25
 have u5 := Tryz.underlying2
 have a5 := Tryz.isAgg2
 have z5 := Tryz.sizeOf2
 have hS : Tryz.prog.underlying 27 = some (.struct (Tryz.prog.fieldsOf 27)) := by kernel_rfl
 have hp : Tryz.prog.stoodInHeld 27 = false := by kernel_rfl
 rw [run_neq_struct, show (10000 : Nat) = 9999 + 1 from rfl, run_equalIn_agg w 9999 27 _ _ hS hp]
 simp only [Program.fieldsOf, Tryz.underlying27]
 go_simp
 have e : decide (x = y) = (decide (x.s = y.s) && (decide (x.k = y.k) && (decide (x.t = y.t) && (decide (x.v = y.v) && decide (x.x = y.x))))) := by
  rw [← Bool.decide_and, ← Bool.decide_and, ← Bool.decide_and, ← Bool.decide_and]
  exact decide_eq_decide.2 ⟨fun h => by subst h; simp, fun ⟨h1, h2, h3, h4, h5⟩ => It.ext h1 h2 h3 h4 h5⟩
 rw [e]
 by_cases h1 : x.s = y.s <;> by_cases h2 : x.k = y.k <;> by_cases h3 : x.t = y.t <;> by_cases h4 : x.v = y.v <;> by_cases h5 : x.x = y.x <;> simp [h1, h2, h3, h4, h5] <;> omega
theorem it_if {x y : It} (h : x ≠ y) {α : Type} (A B : α) : (if x.s = y.s then if x.k = y.k then if (x.t : Int) = (y.t : Int) then if (x.v : Int) = (y.v : Int) then if x.x = y.x then A else B else B else B else B else B) = B := by
 by_cases h1 : x.s = y.s
 ·by_cases h2 : x.k = y.k
  ·by_cases h3 : (x.t : Int) = (y.t : Int)
   ·by_cases h4 : (x.v : Int) = (y.v : Int)
    ·by_cases h5 : x.x = y.x
     ·exact absurd (It.ext h1 h2 (by omega) (by omega) h5) h
     ·rw [if_pos h1, if_pos h2, if_pos h3, if_pos h4, if_neg h5]
    ·rw [if_pos h1, if_pos h2, if_pos h3, if_neg h4]
   ·rw [if_pos h1, if_pos h2, if_neg h3]
  ·rw [if_pos h1, if_neg h2]
 ·rw [if_neg h1]
theorem requal_any (A : Option Addr) (n c : Nat) (a : List It) (B : Option Addr) (m d : Nat) (b : List It) (w : World) (hn : n ≤ 1000000) (hm : m ≤ 1000000) (ra : Row w.heap.size w A n 5 (itc a)) (rb : Row w.heap.size w B m 5 (itc b)) :
  Calls Tryz.prog 19 #[.slice A n c, .slice B m d] w fun e w' => e = .returned (.bool (decide (a = b))) ∧ Below w.heap.size w w' := by
 have hna := ra.itlen
 have hmb := rb.itlen
 obtain ⟨r, hr⟩ : ∃ r, r = decide (a = b) := ⟨_, rfl⟩
 rw [← hr]
 by_cases hnm : n = m
 ·subst hnm
  have HR := Lib.hid hr
  clear hr
  go_enter Tryz.func19, Tryz.ntmps19
  go_wp2
  go_loopw [5] (fun i wr => ∃ k : Nat, k ≤ n ∧ i = .int .i64 (k : Int) ∧ Hid (a.take k = b.take k) ∧ Below w.heap.size w wr) (fun i _ => n - (intOf i).toNat)
  case atStart => exact ⟨0, Nat.zero_le _, rfl, Lib.hid rfl, Below.refl _ _⟩
  case round =>
   obtain ⟨k, hk, rfl, HE, hbl⟩ := hrel
   by_cases hlt : k < n
   ·obtain ⟨p, hl, rfl, hbk, hd⟩ := (ra.below hbl).it hlt
    obtain ⟨p2, hl2, rfl, hbk2, hd2⟩ := (rb.below hbl).it hlt
    have hte : a.take (k + 1) = a.take k ++ [a[k]] := List.take_succ_eq_append_getElem hl
    have htf : b.take (k + 1) = b.take k ++ [b[k]] := List.take_succ_eq_append_getElem hl2
    have hne : a[k] ≠ b[k] → a ≠ b := fun h e => by subst e; exact h rfl
    generalize a[k] = x at *
    generalize b[k] = y at *
    have hnq := it_neq x y
    obtain ⟨q, hq⟩ : ∃ q, q = decide (x = y) := ⟨_, rfl⟩
    rw [← hq] at hnq
    have hkc : ∀ w', Below wr.heap.size wr w' → (w'.cell? (p.add (k * 5)) = some (.int .i64 x.s) ∧ w'.cell? ⟨(p.add (k * 5)).block, (p.add (k * 5)).off + 1, none⟩ = some (.int .i64 x.k) ∧ w'.cell? ⟨(p.add (k * 5)).block, (p.add (k * 5)).off + 2, none⟩ = some (.int .u64 (x.t : Int)) ∧ w'.cell? ⟨(p.add (k * 5)).block, (p.add (k * 5)).off + 3, none⟩ = some (.int .u64 (x.v : Int)) ∧ w'.cell? ⟨(p.add (k * 5)).block, (p.add (k * 5)).off + 4, none⟩ = some (.int .i64 x.x)) ∧ w'.cell? (p2.add (k * 5)) = some (.int .i64 y.s) ∧ w'.cell? ⟨(p2.add (k * 5)).block, (p2.add (k * 5)).off + 1, none⟩ = some (.int .i64 y.k) ∧ w'.cell? ⟨(p2.add (k * 5)).block, (p2.add (k * 5)).off + 2, none⟩ = some (.int .u64 (y.t : Int)) ∧ w'.cell? ⟨(p2.add (k * 5)).block, (p2.add (k * 5)).off + 3, none⟩ = some (.int .u64 (y.v : Int)) ∧ w'.cell? ⟨(p2.add (k * 5)).block, (p2.add (k * 5)).off + 4, none⟩ = some (.int .i64 y.x) := fun w' hb => by
     have h1 := hd.below (B := wr.heap.size) (w' := w') (Nat.lt_of_lt_of_le hbk hbl.size) hb
     have h2 := hd2.below (B := wr.heap.size) (w' := w') (Nat.lt_of_lt_of_le hbk2 hbl.size) hb
     exact ⟨⟨h1.c0, h1.c1, h1.c2, h1.c3, h1.c4⟩, h2.c0, h2.c1, h2.c2, h2.c3, h2.c4⟩
    have KC := Lib.hid hkc
    have HQ := Lib.hid hq
    have HNE := Lib.hid hne
    have HT := Lib.hid (And.intro hte htf)
    have HNQ := Lib.hid hnq
    have hwk : IntKind.i64.wrap (k : Int) = (k : Int) := IntWalk.i64_in _ (by omega)
    have hkn : (k : Int) < (n : Int) := by omega
    clear hkc hq hne hte htf hd hd2 hnq
    by_cases hxy : x = y
    ·have H1 := Lib.hid (show a.take (k + 1) = b.take (k + 1) by rw [HT.out.1, HT.out.2, HE.out, hxy])
     subst hxy
     clear HNQ HQ
     go_wp2_with fail
     refine wp_region_held_drew (S := fun w' => Below wr.heap.size wr w') rfl (below_drew (Below.refl _ _)) (fun hSw => ?_)
     refine wpT (i := 0) (v := ?vea0) ?hea0 hSw ?kea0
     case hea0 => (intro w hSw; (obtain ⟨⟨c0, c1, c2, c3, c4⟩, d0, d1, d2, d3, d4⟩ := KC.out w hSw); go_simp; try (with_reducible rfl))
     go_simp
     refine wpT (i := 1) (v := ?vea1) ?hea1 hSw ?kea1
     case hea1 => (intro w hSw; (obtain ⟨⟨c0, c1, c2, c3, c4⟩, d0, d1, d2, d3, d4⟩ := KC.out w hSw); go_simp; try (with_reducible rfl))
     go_simp
     refine wpT (i := 2) (v := ?vea2) ?hea2 hSw ?kea2
     case hea2 => (intro w hSw; (obtain ⟨⟨c0, c1, c2, c3, c4⟩, d0, d1, d2, d3, d4⟩ := KC.out w hSw); go_simp; try (with_reducible rfl))
     go_simp
     refine wpT (i := 3) (v := ?vea3) ?hea3 hSw ?kea3
     case hea3 => (intro w hSw; (obtain ⟨⟨c0, c1, c2, c3, c4⟩, d0, d1, d2, d3, d4⟩ := KC.out w hSw); go_simp; try (with_reducible rfl))
     go_simp
     refine wpT (i := 4) (v := ?vea4) ?hea4 hSw ?kea4
     case hea4 => (intro w hSw; (obtain ⟨⟨c0, c1, c2, c3, c4⟩, d0, d1, d2, d3, d4⟩ := KC.out w hSw); go_simp; try (with_reducible rfl))
     go_simp
     refine wpT (i := 5) (v := ?vea5) ?hea5 hSw ?kea5
     case hea5 => (intro w hSw; (obtain ⟨⟨c0, c1, c2, c3, c4⟩, d0, d1, d2, d3, d4⟩ := KC.out w hSw); go_simp; try (with_reducible rfl))
     go_simp
     refine wpT (i := 6) (v := ?vea6) ?hea6 hSw ?kea6
     case hea6 => (intro w hSw; (obtain ⟨⟨c0, c1, c2, c3, c4⟩, d0, d1, d2, d3, d4⟩ := KC.out w hSw); go_simp; try (with_reducible rfl))
     go_simp
     refine wpT (i := 7) (v := ?vea7) ?hea7 hSw ?kea7
     case hea7 => (intro w hSw; (obtain ⟨⟨c0, c1, c2, c3, c4⟩, d0, d1, d2, d3, d4⟩ := KC.out w hSw); go_simp; try (with_reducible rfl))
     go_simp
     refine wpT (i := 8) (v := ?vea8) ?hea8 hSw ?kea8
     case hea8 => (intro w hSw; (obtain ⟨⟨c0, c1, c2, c3, c4⟩, d0, d1, d2, d3, d4⟩ := KC.out w hSw); go_simp; try (with_reducible rfl))
     go_simp
     refine wpAnyH_done (by kernel_rfl) ?_ _
     have hby := hbl.trans (hSw.mono hbl.size)
     clear hSw KC
     go_wp2
     go_roundw
     case rel => exact ⟨k + 1, by omega, by go_num, H1.out, hby⟩
     case measure => simp [intOf]; omega
    ·have hrf : r = false := by
      rw [HR.out]
      simpa using HNE.out hxy
     have H1 := Lib.hid hrf
     have HIF := Lib.hid (fun (α : Type) (A B : α) => it_if hxy A B)
     clear hrf hxy HNQ HQ
     go_wp2_with fail
     refine wp_region_held_drew (S := fun w' => Below wr.heap.size wr w') rfl (below_drew (Below.refl _ _)) (fun hSw => ?_)
     refine wpT (i := 0) (v := ?veb0) ?heb0 hSw ?keb0
     case heb0 => (intro w hSw; (obtain ⟨⟨c0, c1, c2, c3, c4⟩, d0, d1, d2, d3, d4⟩ := KC.out w hSw; have hif := HIF.out); go_simp; try (with_reducible rfl))
     go_simp
     refine wpT (i := 1) (v := ?veb1) ?heb1 hSw ?keb1
     case heb1 => (intro w hSw; (obtain ⟨⟨c0, c1, c2, c3, c4⟩, d0, d1, d2, d3, d4⟩ := KC.out w hSw; have hif := HIF.out); go_simp; try (with_reducible rfl))
     go_simp
     refine wpT (i := 2) (v := ?veb2) ?heb2 hSw ?keb2
     case heb2 => (intro w hSw; (obtain ⟨⟨c0, c1, c2, c3, c4⟩, d0, d1, d2, d3, d4⟩ := KC.out w hSw; have hif := HIF.out); go_simp; try (with_reducible rfl))
     go_simp
     refine wpT (i := 3) (v := ?veb3) ?heb3 hSw ?keb3
     case heb3 => (intro w hSw; (obtain ⟨⟨c0, c1, c2, c3, c4⟩, d0, d1, d2, d3, d4⟩ := KC.out w hSw; have hif := HIF.out); go_simp; try (with_reducible rfl))
     go_simp
     refine wpT (i := 4) (v := ?veb4) ?heb4 hSw ?keb4
     case heb4 => (intro w hSw; (obtain ⟨⟨c0, c1, c2, c3, c4⟩, d0, d1, d2, d3, d4⟩ := KC.out w hSw; have hif := HIF.out); go_simp; try (with_reducible rfl))
     go_simp
     refine wpT (i := 5) (v := ?veb5) ?heb5 hSw ?keb5
     case heb5 => (intro w hSw; (obtain ⟨⟨c0, c1, c2, c3, c4⟩, d0, d1, d2, d3, d4⟩ := KC.out w hSw; have hif := HIF.out); go_simp; try (with_reducible rfl))
     go_simp
     refine wpT (i := 6) (v := ?veb6) ?heb6 hSw ?keb6
     case heb6 => (intro w hSw; (obtain ⟨⟨c0, c1, c2, c3, c4⟩, d0, d1, d2, d3, d4⟩ := KC.out w hSw; have hif := HIF.out); go_simp; try (with_reducible rfl))
     go_simp
     refine wpT (i := 7) (v := ?veb7) ?heb7 hSw ?keb7
     case heb7 => (intro w hSw; (obtain ⟨⟨c0, c1, c2, c3, c4⟩, d0, d1, d2, d3, d4⟩ := KC.out w hSw; have hif := HIF.out); go_simp; try (with_reducible rfl))
     go_simp
     refine wpT (i := 8) (v := ?veb8) ?heb8 hSw ?keb8
     case heb8 => (intro w hSw; (obtain ⟨⟨c0, c1, c2, c3, c4⟩, d0, d1, d2, d3, d4⟩ := KC.out w hSw; have hif := HIF.out); go_simp; try (with_reducible rfl))
     go_simp
     refine wpAnyH_done (by kernel_rfl) ?_ _
     have hby := hbl.trans (hSw.mono hbl.size)
     clear hSw KC
     go_wp2
     go_ret
     exact ⟨ret_bo H1.out.symm, hby⟩
   ·have hall : r = true := by
     have := HE.out
     rw [List.take_of_length_le (by omega), List.take_of_length_le (by omega)] at this
     rw [HR.out, this]
     simp
    have H1 := Lib.hid hall
    clear hall
    go_wp2
    go_ret
    exact ⟨ret_bo H1.out.symm, hbl⟩
 ·have hne : r = false := by
   rw [hr]
   have : a ≠ b := fun e => hnm (by rw [← hna, ← hmb, e])
   simpa using this
  have e1 : ((n : Int) == (m : Int)) = false := by rw [beq_eq_false_iff_ne]; omega
  have H1 := Lib.hid hne
  clear hne hr
  go_enter Tryz.func19, Tryz.ntmps19
  go_wp2
  go_ret
  exact ⟨ret_bo H1.out.symm, Below.refl _ _⟩
end
section
open Go Go.RowKit Go.Lib
end
section
open Go Go.RowKit Go.Lib
theorem its_len {w : World} {L : Nat} {ns : List Nd} (h : SkAt w L ns) : (its ns).length + 1 = ns.length := by
 obtain ⟨hd, tl, hns, _⟩ := h.head
 rw [hns]
 simp [its]
theorem slen_any (L : Nat) (ns : List Nd) (w : World) (hs : SkAt w L ns) :
  Calls Tryz.prog 90 #[.pointer (some ⟨L, 0, none⟩)] w fun e w' => e = .returned (.int .i64 ((its ns).length : Int)) ∧ w' = w := by
 obtain ⟨hd, tl, hns, h6, hL⟩ := hs.head
 have hl := its_len hs
 have l1 := hL.cell 1
 simp only [gE0, gE1] at l1
 have e : tl.length = (its ns).length := by rw [hns] at hl ⊢; simp at hl; omega
 rw [e] at l1
 clear hl e hns
 go_enter Tryz.func90, Tryz.ntmps90
 go_wp2
 go_ret
 exact ⟨rfl, rfl⟩
end
section
open Go Go.RowKit Go.Lib
def e8 (n : Nat) : List UInt8 := [56, 48, 40, 32, 24, 16, 8, 0].map fun k => UInt8.ofNat (n / 2 ^ k)
theorem e8_take (n : Nat) {k : Nat} (hk : k < 8) : (e8 n).take (k + 1) = (e8 n).take k ++ [UInt8.ofNat (n / 2 ^ (56 - 8 * k))] := by
 have e : k = 0 ∨ k = 1 ∨ k = 2 ∨ k = 3 ∨ k = 4 ∨ k = 5 ∨ k = 6 ∨ k = 7 := by omega
 rcases e with rfl | rfl | rfl | rfl | rfl | rfl | rfl | rfl <;> rfl
theorem eight_any (A : Option Addr) (N c : Nat) (l : List UInt8) (n : Nat) (hn : n < 18446744073709551616) (w : World) (hN : N ≤ 1073741824) (hr : Row w.heap.size w A N 1 (bts l)) :
  Calls Tryz.prog 214 #[.slice A N c, .int .u64 (n : Int)] w fun e w' => ∃ A' c', e = .returned (.slice A' (N + 8) c') ∧
   w'.ownsRow w.heap.size 5 1 (.slice A' (N + 8) c') (N + 8) (bts (l ++ e8 n)) ∧ N + 8 ≤ c' ∧ c' ≤ maxLen ∧ Below w.heap.size w w' := by
 obtain ⟨i0, hi0, hz0, hz1, hz2⟩ := info_parts info_u8
 go_enter Tryz.func214, Tryz.ntmps214
 go_wp2_with (at_builtin; refine stop_in ?_)
 refine stop_out (wpList_app0 rfl (.const (.slice none 0 0)) (.tmp 7) _ rfl w.heap.size 5 i0 _ 1 1 Tryz.underlying121 hi0 hz0 hz1 hz2 rfl (by omega) w (Below.refl _ _) (Nat.le_refl _) rfl w.heap.size A N c (bts l) rfl hr (bts_one l) (by unfold maxLen; omega) (by omega) ?_)
 intro A2 c2 w2 hown2 hb2 hg2 hc2 hm2
 go_wp2
 go_loopw [5, 6] (fun o m wr => ∃ (k : Nat) (A' : Option Addr) (c' : Nat), k ≤ 8 ∧ o = .slice A' (N + k) c' ∧ m = .int .i64 (56 - 8 * (k : Int)) ∧ wr.ownsRow w.heap.size 5 1 (.slice A' (N + k) c') (N + k) (bts (l ++ (e8 n).take k)) ∧ N + k ≤ c' ∧ c' ≤ maxLen ∧ Below w.heap.size w wr) (fun _ m _ => (intOf m + 8).toNat)
 case atStart => exact ⟨0, A2, c2, by omega, rfl, rfl, by simpa using hown2, hc2, hm2, hb2⟩
 case round =>
  obtain ⟨k, A', c', hk, rfl, rfl, hown, hc', hm', hb⟩ := hrel
  have HO := Lib.hid hown
  clear hown
  by_cases hk8 : k < 8
  ·have h0 : 8 * (k : Int) ≤ 56 := by omega
   go_wp2_with (at_builtin; refine stop_in ?_)
   have hbox : Row (wr.heap.size + 1) (wr.alloc (.cells #[.int .u8 ((UInt8.ofNat (n / 2 ^ (56 - 8 * k))).toNat : Int)] 5)) (some ⟨wr.heap.size, 0, none⟩) 1 1 (bts [UInt8.ofNat (n / 2 ^ (56 - 8 * k))]) := box_row _ _ _
   refine stop_out (wpList_app rfl (.tmp 13) (.tmp 18) _ rfl w.heap.size 5 i0 _ 1 1 Tryz.underlying121 hi0 hz0 hz1 hz2 rfl (by omega) w (hb.alloc hb.size _) (Nat.le_trans hb.size (by simp)) _ (N + k) (bts (l ++ (e8 n).take k)) rfl (HO.out.alloc _) (wr.heap.size + 1) _ 1 1 (bts [UInt8.ofNat (n / 2 ^ (56 - 8 * k))]) rfl hbox (bts_one _) (N + (k + 1)) (bts (l ++ (e8 n).take (k + 1))) (by omega) (by rw [e8_take n hk8]; simp [bts]) (by unfold maxLen; omega) (by omega) ?_)
   intro A3 c3 w3 hown3 hb3 _ hc3 hm3
   have HO3 := Lib.hid hown3
   clear hown3 HO hbox
   go_wp2
   go_roundw
   case rel => exact ⟨k + 1, A3, c3, by omega, rfl, by go_num, HO3.out, hc3, hm3, hb3⟩
   case measure => simp [intOf]; omega
  ·obtain rfl : k = 8 := by omega
   have HF := Lib.hid (show wr.ownsRow w.heap.size 5 1 (.slice A' (N + 8) c') (N + 8) (bts (l ++ e8 n)) from HO.out)
   clear HO
   go_wp2
   go_ret
   exact ⟨A', c', rfl, HF.out, hc', hm', hb⟩
theorem iu8_of {x : Int} (h0 : 0 ≤ x) (h1 : x ≤ 255) : IntKind.u8.wrap x = ((UInt8.ofNat x.toNat).toNat : Int) := by
 rw [← byte_of_nat]
 simp only [IntKind.wrap_u8]
 omega
theorem key_any (x : It) (hk : x.ok = true) (w : World) :
  Calls Tryz.prog 166 #[x.val] w fun e w' => ∃ A' c', e = .returned (.slice A' 10 c') ∧ Row w'.heap.size w' A' 10 1 (bts x.key) ∧ 10 ≤ c' ∧ c' ≤ maxLen ∧ Below w.heap.size w w' := by
 rw [It.ok_iff] at hk
 have e1 := iu8_of (x := x.s) (by omega) (by omega)
 have e2 := iu8_of (x := x.k) (by omega) (by omega)
 have ht : x.t < 18446744073709551616 := by omega
 have h8 := fun (W : World) (A : Option Addr) (c : Nat) hr => eight_any A 2 c [UInt8.ofNat x.s.toNat, UInt8.ofNat x.k.toNat] x.t ht W (by omega) hr
 have HK := Lib.hid (show [UInt8.ofNat x.s.toNat, UInt8.ofNat x.k.toNat] ++ e8 x.t = x.key from rfl)
 unfold It.val
 generalize UInt8.ofNat x.s.toNat = u1 at *
 generalize UInt8.ofNat x.k.toNat = u2 at *
 have hW := (Below.refl w.heap.size w).alloc (Nat.le_refl _) (.cells #[.int .i64 x.s, .int .i64 x.k, .int .u64 (x.t : Int), .int .u64 (x.v : Int), .int .i64 x.x] 27)
 have H8 := Lib.hid h8
 have HW := Lib.hid hW
 clear h8 hk hW
 go_enter Tryz.func166, Tryz.ntmps166
 go_wp2_with fail
 have hrow : Row ((w.alloc (.cells #[.int .i64 x.s, .int .i64 x.k, .int .u64 (x.t : Int), .int .u64 (x.v : Int), .int .i64 x.x] 27)).alloc (.cells #[.int .u8 (u1.toNat : Int), .int .u8 (u2.toNat : Int)] 5)).heap.size ((w.alloc (.cells #[.int .i64 x.s, .int .i64 x.k, .int .u64 (x.t : Int), .int .u64 (x.v : Int), .int .i64 x.x] 27)).alloc (.cells #[.int .u8 (u1.toNat : Int), .int .u8 (u2.toNat : Int)] 5)) (some ⟨w.heap.size + 1, 0, none⟩) 2 1 (bts [u1, u2]) := by
  have := Row.new (w.alloc (.cells #[.int .i64 x.s, .int .i64 x.k, .int .u64 (x.t : Int), .int .u64 (x.v : Int), .int .i64 x.x] 27)) #[.int .u8 (u1.toNat : Int), .int .u8 (u2.toNat : Int)] 5 (n := 2) (size := 1) rfl
  simpa [bts] using this
 have hb := HW.out.alloc HW.out.size (.cells #[.int .u8 (u1.toNat : Int), .int .u8 (u2.toNat : Int)] 5)
 refine (H8.out _ _ _ hrow).mono ?_
 rintro e w2 ⟨A', c', rfl, ho, h1, h2, h3⟩
 rw [HK.out] at ho
 have HO := Lib.hid (show Row w2.heap.size w2 A' 10 1 (bts x.key) from Row.own ho)
 clear ho hrow H8
 go_wp2
 go_ret
 exact ⟨A', c', rfl, HO.out, h1, h2, later_ hb h3⟩
theorem sgn_bits (x : Int) (h1 : -9223372036854775808 ≤ x) (h2 : x < 9223372036854775808) :
  bits .xor .u64 (IntKind.u64.wrap (IntKind.u64.wrap x * 2)) (IntKind.u64.wrap (x / 9223372036854775808)) = (sgn x : Int) := by
 have key : ∀ a b : Nat, a < 2 ^ 64 → b < 2 ^ 64 → bits .xor .u64 (a : Int) (b : Int) = ((BitVec.ofNat 64 a ^^^ BitVec.ofNat 64 b).toNat : Int) := fun a b ha hb => by
  have := bits64_xor (BitVec.ofNat 64 a) (BitVec.ofNat 64 b)
  rw [BitVec.toNat_ofNat, BitVec.toNat_ofNat, Nat.mod_eq_of_lt ha, Nat.mod_eq_of_lt hb] at this
  exact this
 unfold sgn
 simp only [IntKind.wrap_u64]
 by_cases h0 : 0 ≤ x
 ·rw [if_pos h0]
  have e1 : x / 9223372036854775808 % 18446744073709551616 = ((0 : Nat) : Int) := by omega
  have e2 : x % 18446744073709551616 * 2 % 18446744073709551616 = ((2 * x).toNat : Int) := by omega
  rw [e1, e2, key _ _ (by omega) (by omega)]
  simp
  omega
 ·rw [if_neg h0]
  have e1 : x / 9223372036854775808 % 18446744073709551616 = ((18446744073709551615 : Nat) : Int) := by omega
  have e2 : x % 18446744073709551616 * 2 % 18446744073709551616 = ((2 * x + 18446744073709551616).toNat : Int) := by omega
  rw [e1, e2, key _ _ (by omega) (by omega)]
  have e3 : BitVec.ofNat 64 18446744073709551615 = BitVec.allOnes 64 := by decide
  rw [e3, BitVec.xor_allOnes, BitVec.toNat_not, BitVec.toNat_ofNat]
  omega
theorem sign_any (x : Int) (h1 : -9223372036854775808 ≤ x) (h2 : x < 9223372036854775808) (w : World) :
  Calls Tryz.prog 209 #[.int .i64 x] w fun e w' => e = .returned (.int .u64 (sgn x : Int)) ∧ w' = w := by
 go_enter Tryz.func209, Tryz.ntmps209
 have HS := Lib.hid (sgn_bits x h1 h2)
 go_wp2
 rw [HS.out]
 go_ret
 exact ⟨rfl, rfl⟩
end
section
open Go.RowKit
theorem fnv_bits (h : BitVec 64) (c : UInt8) : IntKind.u64.wrap (bits .xor .u64 (h.toNat : Int) (IntKind.u64.wrap (c.toNat : Int)) * 1099511628211) = ((Fnv.byte h c).toNat : Int) := by
 have h1 : IntKind.u64.wrap (c.toNat : Int) = ((BitVec.ofNat 64 c.toNat).toNat : Int) := by
  rw [← byte64, IntKind.wrap_u64]
  have := c.toNat_lt
  omega
 rw [h1, bits64_xor, IntKind.wrap_u64, Fnv.byte, BitVec.toNat_mul]
 rfl
theorem hash_any (A : Option Addr) (n c : Nat) (l : List UInt8) (w : World) (hn : n ≤ 9223372036854775807) (hr : Row w.heap.size w A n 1 (bts l)) :
  Calls Tryz.prog 165 #[.slice A n c] w fun e w' => e = .returned (.int .u64 ((Fnv.hash l).toNat : Int)) ∧ w = w' := by
 go_enter Tryz.func165, Tryz.ntmps165
 go_wp2
 go_loop [3, 8, 5] (fun x i _ => ∃ k : Nat, k ≤ n ∧ i = .int .i64 k ∧ x = .int .u64 ((Fnv.go Fnv.basis (l.take k)).toNat : Int)) (fun _ i _ => n - (intOf i).toNat)
 case atStart => exact ⟨0, Nat.zero_le _, rfl, rfl⟩
 case round =>
  obtain ⟨k, hk, rfl, rfl⟩ := hrel
  by_cases hlt : k < n
  ·obtain ⟨a, hl, rfl, _, hc⟩ := hr.bt hlt
   go_wp2
   go_round
   case rel => exact ⟨k + 1, by omega, by go_num, int_eq (by rw [Fnv.go_snoc _ _ _ hl, fnv_bits])⟩
   case measure => simp [intOf]; omega
  ·go_wp2
   go_ret
   exact ⟨ret_eq (int_eq (by rw [List.take_of_length_le (by have := hr.btlen; omega)]; rfl)), rfl⟩
end
section
open Go Go.RowKit Go.Lib
theorem aistore_any (g j : Nat) (x y : Int) (w : World) (hc : w.cell? ⟨g, j, none⟩ = some (.int .i64 x)) (hz : w.frozen? ⟨g, j, none⟩ = false) :
  Calls Tryz.prog 89 #[.pointer (some ⟨g, j, none⟩), .int .i64 y] w fun e w' => e = .returned (.tuple #[]) ∧ w' = w.setCell ⟨g, j, none⟩ (.int .i64 y) := by
 have hst := run_call_store (P := Tryz.prog) Tryz.func167 (by kernel_rfl) (by kernel_rfl) (by kernel_rfl) (by kernel_rfl) (k := .i64) (y := y) hc hz
 go_enter Tryz.func89, Tryz.ntmps89
 go_wp2
 exact bodyPost_end (v := .tuple #[]) (by simp [results, go_sem]) rfl ⟨rfl, rfl⟩
theorem aiadd_any (g j : Nat) (x : Int) (w : World) (h0 : 0 ≤ x) (h1 : x ≤ 1000000000) (hc : w.cell? ⟨g, j, none⟩ = some (.int .i64 x)) (hz : w.frozen? ⟨g, j, none⟩ = false) :
  Calls Tryz.prog 85 #[.pointer (some ⟨g, j, none⟩), .int .i64 1] w fun e w' => e = .returned (.int .i64 (x + 1)) ∧ w' = w.setCell ⟨g, j, none⟩ (.int .i64 (x + 1)) := by
 have hwr : IntKind.i64.wrap (x + 1) = x + 1 := IntWalk.i64_in _ (by omega)
 have hadd := run_call_add (P := Tryz.prog) Tryz.func160 (by kernel_rfl) (by kernel_rfl) (by kernel_rfl) .i64 (by kernel_rfl) (y := 1) (s := x + 1) hc hz (by simp [go_sem, hwr])
 go_enter Tryz.func85, Tryz.ntmps85
 go_wp2
 go_ret
 exact ⟨rfl, rfl⟩
end
section
open Go Go.RowKit Go.Lib
structure MmAt (w : World) (m L : Nat) (ns : List Nd) : Prop where
 box : ∃ sz : Int, BoxO w 154 m [.pointer (some ⟨L, 0, none⟩), .int .u32 0, .int .i32 0, .int .u32 0, .bool false, .int .i64 sz]
 sk : SkAt w L ns
 out : m ∉ skF L ns
variable {w w' : World} {m L : Nat} {ns : List Nd}
theorem MmAt.chg {F : List Nat} (h : MmAt w m L ns) (c : Chg F w w') (hF : ∀ g ∈ m :: skF L ns, g ∉ F) : MmAt w' m L ns :=
 ⟨let ⟨sz, a⟩ := h.box; ⟨sz, a.chg c (hF m List.mem_cons_self)⟩, h.sk.chg c (fun g hg => hF g (List.mem_cons_of_mem _ hg)), h.out⟩
theorem MmAt.below (h : MmAt w m L ns) (c : Below w.heap.size w w') : MmAt w' m L ns := h.chg (Chg.of_below c []) (fun _ _ => by simp)
theorem mmnew_any (w : World) : Calls Tryz.prog 64 #[] w fun e w' => ∃ m L ns, e = .returned (.pointer (some ⟨m, 0, none⟩)) ∧ MmAt w' m L ns ∧ its ns = [] ∧ Below w.heap.size w w' ∧ ∀ g ∈ m :: skF L ns, w.heap.size ≤ g := by
 have HN := Lib.hid (snew_any w)
 go_enter Tryz.func64, Tryz.ntmps64
 go_wp2_with fail
 refine HN.out.mono ?_
 rintro e w1 ⟨L, ns, rfl, h1, h2, h3, h4⟩
 have HF := Lib.hid (And.intro h1 (And.intro h2 (And.intro h3 h4)))
 clear h1 h2 h3 h4 HN
 go_wp2
 go_ret
 obtain ⟨h1, h2, h3, h4⟩ := HF.out
 have hs := h3.size
 refine ⟨w1.heap.size, L, ns, rfl, ⟨⟨0, BoxO.new _ _ _⟩, h1.below ((Below.refl _ _).alloc (Nat.le_refl _) _), fun hm => ?_⟩, h2, h3.alloc hs _, fun g hg => ?_⟩
 ·have := h1.lt _ hm
  omega
 ·rcases List.mem_cons.1 hg with rfl | hg
  ·exact hs
  ·exact h4 g hg
theorem height_any (x : It) (hk : x.ok = true) (w : World) : Calls Tryz.prog 88 #[x.val] w fun e w' => ∃ k : Nat, 1 ≤ k ∧ k ≤ 6 ∧ e = .returned (.int .i64 (k : Int)) ∧ Below w.heap.size w w' := by
 have hky := fun W => key_any x hk W
 have hW := (Below.refl w.heap.size w).alloc (Nat.le_refl _) (.cells #[.int .i64 x.s, .int .i64 x.k, .int .u64 (x.t : Int), .int .u64 (x.v : Int), .int .i64 x.x] 27)
 unfold It.val at *
 have HKY := Lib.hid hky
 have HW := Lib.hid hW
 clear hky hW
 go_enter Tryz.func88, Tryz.ntmps88
 go_wp2_with fail
 refine (HKY.out _).mono ?_
 rintro e w1 ⟨A', c', rfl, hr, h1, h2, h3⟩
 have hb := later_ HW.out h3
 have HH := Lib.hid (hash_any A' 10 c' x.key w1 (by omega) hr)
 clear hr h3 HW HKY
 go_wp2_with fail
 refine HH.out.mono ?_
 rintro e w2 ⟨rfl, rfl⟩
 generalize (Fnv.hash x.key).toNat = hv
 clear HH
 go_wp2_with fail
 go_loopw [3, 4] (fun n h wr => ∃ k hv : Nat, 1 ≤ k ∧ k ≤ 6 ∧ n = .int .i64 (k : Int) ∧ h = .int .u64 (hv : Int) ∧ wr = w1) (fun n _ _ => 6 - (intOf n).toNat)
 case atStart => exact ⟨1, hv, by omega, by omega, rfl, rfl, rfl⟩
 case round =>
  obtain ⟨k, hv, hk1, hk6, rfl, rfl, rfl⟩ := hrel
  have hwk : IntKind.i64.wrap ((k : Int) + 1) = ((k + 1 : Nat) : Int) := by rw [IntWalk.i64_in _ (by omega)]; omega
  obtain ⟨b, hbb⟩ : ∃ b : Bool, (bits .and .u64 (hv : Int) 3 == 0) = b := ⟨_, rfl⟩
  cases b with
  | false =>
   go_wp2
   go_ret
   exact ⟨k, hk1, hk6, rfl, hb⟩
  | true =>
   by_cases h6 : k < 6
   ·have h6i : (k : Int) < 6 := by omega
    go_wp2
    go_roundw
    case rel => exact ⟨k + 1, hv / 4, by omega, by omega, rfl, by go_num, trivial⟩
    case measure => simp [intOf]; omega
   ·have h6i : ((k : Int) < 6) = False := eq_false (by omega)
    go_wp2
    go_ret
    exact ⟨k, hk1, hk6, rfl, hb⟩
def MmPost (w : World) (m L : Nat) (ns : List Nd) (l : List It) (e : Ending) (w' : World) : Prop := ∃ ns', e = .returned (.int .i64 0) ∧ MmAt w' m L ns' ∧ its ns' = l.foldl wput (its ns) ∧ Chg (m :: skF L ns) w w' ∧ ∀ g ∈ skF L ns', g ∈ skF L ns ∨ w.heap.size ≤ g
theorem wput_len1 (l : List It) (x : It) : (wput l x).length ≤ l.length + 1 := by
 unfold wput
 split
 ·omega
 ·unfold put
  have h1 := List.length_filter_le (fun y => It.less y x) l
  rw [List.length_append, List.length_cons]
  have : ∀ l : List It, (l.filter fun y => It.less y x).length + (l.filter fun y => It.less x y).length ≤ l.length := by
   intro l
   induction l with
   | nil => simp
   | cons a r ih =>
    simp only [List.filter_cons]
    cases h2 : It.less a x <;> cases h3 : It.less x a
    ·simp; omega
    ·simp; omega
    ·simp; omega
    ·rw [It.less_iff] at h2 h3; omega
  have := this l
  omega
theorem wputs_len : ∀ (b a : List It), (b.foldl wput a).length ≤ a.length + b.length
 | [], a => by simp
 | x :: b, a => by
  have h1 := wputs_len b (wput a x)
  have h2 := wput_len1 a x
  simp only [List.foldl_cons, List.length_cons]
  omega
theorem mm_step {w1 wr w7 w8 : World} {ns' ns2 : List Nd} {R : List It} {x : It} (K : MmAt wr m L ns' ∧ its ns' = R ∧ Chg (m :: skF L ns) w1 wr ∧ ∀ g ∈ skF L ns', g ∈ skF L ns ∨ w1.heap.size ≤ g)
  (b7 : Below wr.heap.size wr w7) (q1 : SkAt w8 L ns2) (q2 : its ns2 = wput (its ns') x) (q3 : Chg (skF L ns') w7 w8) (q4 : ∀ g ∈ skF L ns2, g ∈ skF L ns' ∨ w7.heap.size ≤ g) :
  MmAt w8 m L ns2 ∧ its ns2 = wput R x ∧ Chg (m :: skF L ns) w1 w8 ∧ ∀ g ∈ skF L ns2, g ∈ skF L ns ∨ w1.heap.size ≤ g := by
 obtain ⟨k1, k2, k3, k4⟩ := K
 obtain ⟨sz, hb⟩ := (k1.below b7).box
 have hs1 := k3.size
 have hs2 := b7.size
 have hml : m < wr.heap.size := by
  obtain ⟨sz, hb⟩ := k1.box
  exact hb.lt
 refine ⟨⟨⟨sz, hb.chg q3 k1.out⟩, q1, fun hm => ?_⟩, by rw [q2, k2], (k3.trans (Chg.of_below b7 (m :: skF L ns)) (fun g hg => .inl hg)).trans q3 (fun g hg => ?_), fun g hg => ?_⟩
 ·rcases q4 m hm with h | h
  ·exact k1.out h
  ·omega
 ·rcases k4 g hg with h | h
  ·exact .inl (List.mem_cons_of_mem _ h)
  ·exact .inr h
 ·rcases q4 g hg with h | h
  ·exact k4 g h
  ·exact .inr (by omega)
theorem mmapply_any (h : MmAt w m L ns) (A : Option Addr) (n c : Nat) (l : List It) (hn : n ≤ 400000) (hnl : (its ns).length ≤ 400000) (hr : Row w.heap.size w A n 5 (itc l)) (hA : ∀ a, A = some a → a.block ≠ m ∧ a.block ∉ skF L ns) (hk : l.all It.ok = true) :
  Calls Tryz.prog 31 #[.pointer (some ⟨m, 0, none⟩), .slice A n c] w (MmPost w m L ns l) := by
 have hnn := hr.itlen
 obtain ⟨sz, hb⟩ := h.box
 have c4 := hb.cell 4
 simp only [gE0, gE1] at c4
 have hal := ihas_cap 86 (fun _ _ => rfl) #[] (fun x => !x.ok) A n c l w (by omega) hr (fun x w1 _ => map1_any x w1)
 rw [any_nok, hk] at hal
 have HAL := Lib.hid hal
 have HKK := Lib.hid hk
 have H := Lib.hid h
 clear hal hk hb h
 go_enter Tryz.func31, Tryz.ntmps31
 go_wp2_with fail
 refine HAL.out.mono ?_
 rintro e w1 ⟨rfl, hb1⟩
 have h1 := H.out.below hb1
 have hr1 := (hr.below hb1).up hb1.size
 have HB1 := Lib.hid hb1
 have H1 := Lib.hid h1
 clear h1 hb1 hr HAL
 go_wp2_with fail
 go_loopw [17] (fun s wr => ∃ (k : Nat) (ns' : List Nd), k ≤ n ∧ s = .int .i64 (k : Int) ∧ Hid (MmAt wr m L ns' ∧ its ns' = (l.take k).foldl wput (its ns) ∧ Chg (m :: skF L ns) w1 wr ∧ ∀ g ∈ skF L ns', g ∈ skF L ns ∨ w1.heap.size ≤ g)) (fun s _ => n - (intOf s).toNat)
 case atStart => exact ⟨0, ns, Nat.zero_le _, rfl, Lib.hid ⟨H1.out, rfl, Chg.refl _ _, fun g hg => .inl hg⟩⟩
 case round =>
  obtain ⟨k, ns', hkn, rfl, HK⟩ := hrel
  by_cases hlt : k < n
  ·have hki : (k : Int) < (n : Int) := by omega
   have hwk : IntKind.i64.wrap (k : Int) = (k : Int) := IntWalk.i64_in _ (by omega)
   have hrk : Row w1.heap.size wr A n 5 (itc l) := HK.out.2.2.1.row hr1 (Nat.le_refl _) (fun a ha hm => by
    rcases List.mem_cons.1 hm with h2 | h2
    ·exact (hA a ha).1 h2
    ·exact (hA a ha).2 h2)
   obtain ⟨p, hl, rfl, hbk, c0, c1, c2', c3, c4⟩ := hrk.it hlt
   have hxk : l[k].ok = true := by have := HKK.out; rw [List.all_eq_true] at this; exact this _ (List.getElem_mem hl)
   have hft : (l.take (k + 1)).foldl wput (its ns) = wput ((l.take k).foldl wput (its ns)) l[k] := by
    rw [List.take_succ_eq_append_getElem hl, List.foldl_append]
    rfl
   generalize l[k] = x at *
   have hnb : ns'.length ≤ 1000000 := by
    have h2 := its_len HK.out.1.sk
    have h3 := wputs_len (l.take k) (its ns)
    rw [← HK.out.2.1, List.length_take] at h3
    omega
   have hUb := (Below.refl wr.heap.size wr).alloc (Nat.le_refl _) (.cells #[.int .i64 x.s, .int .i64 x.k, .int .u64 (x.t : Int), .int .u64 (x.v : Int), .int .i64 x.x] 27)
   have hbx : BoxO (wr.alloc (.cells #[.int .i64 x.s, .int .i64 x.k, .int .u64 (x.t : Int), .int .u64 (x.v : Int), .int .i64 x.x] 27)) 27 wr.heap.size x.cells := BoxO.new wr #[.int .i64 x.s, .int .i64 x.k, .int .u64 (x.t : Int), .int .u64 (x.v : Int), .int .i64 x.x] 27
   have hmm := HK.out.1.below hUb
   have hhe := fun W => height_any x hxk W
   have hpu := fun W (hW : Below wr.heap.size wr W) (h : Nat) h1 h6 => skput_any L h ns' x W (HK.out.1.sk.below hW) hxk h1 h6 hnb
   obtain ⟨sz', hmb⟩ := hmm.box
   have hkc : ∀ w', Below wr.heap.size wr w' → w'.cell? ⟨m, 0, none⟩ = some (.pointer (some ⟨L, 0, none⟩)) := fun w' hw => by
    obtain ⟨sz2, hmb2⟩ := (HK.out.1.below hw).box
    exact hmb2.cell 0
   have hkx : ∀ w', Below (wr.heap.size + 1) (wr.alloc (.cells #[.int .i64 x.s, .int .i64 x.k, .int .u64 (x.t : Int), .int .u64 (x.v : Int), .int .i64 x.x] 27)) w' → w'.cell? ⟨wr.heap.size, 0, none⟩ = some (.int .i64 x.s) ∧ w'.cell? ⟨wr.heap.size, 1, none⟩ = some (.int .i64 x.k) ∧ w'.cell? ⟨wr.heap.size, 2, none⟩ = some (.int .u64 (x.t : Int)) ∧ w'.cell? ⟨wr.heap.size, 3, none⟩ = some (.int .u64 (x.v : Int)) ∧ w'.cell? ⟨wr.heap.size, 4, none⟩ = some (.int .i64 x.x) := fun w' hw => by
    have e := hbx.below (w' := w') (by simpa using hw)
    exact ⟨e.cell 0, e.cell 1, e.cell 2, e.cell 3, e.cell 4⟩
   unfold It.val at hhe hpu
   have HHE := Lib.hid hhe
   have HPU := Lib.hid hpu
   have HUB := Lib.hid hUb
   have HBX := Lib.hid hbx
   have HFT := Lib.hid hft
   have KC := Lib.hid hkc
   have m0 := hmb.cell 0
   have b0 := hbx.cell 0
   have b1 := hbx.cell 1
   have b2 := hbx.cell 2
   have b3 := hbx.cell 3
   have b4 := hbx.cell 4
   simp only [It.cells, gE0, gE1] at b0 b1 b2 b3 b4 m0
   obtain ⟨U, hU⟩ : ∃ U, U = wr.alloc (.cells #[.int .i64 x.s, .int .i64 x.k, .int .u64 (x.t : Int), .int .u64 (x.v : Int), .int .i64 x.x] 27) := ⟨_, rfl⟩
   have hkz : ∀ w', Below U.heap.size U w' → w'.cell? ⟨m, 0, none⟩ = some (.pointer (some ⟨L, 0, none⟩)) ∧ (w'.cell? ⟨wr.heap.size, 0, none⟩ = some (.int .i64 x.s) ∧ w'.cell? ⟨wr.heap.size, 1, none⟩ = some (.int .i64 x.k) ∧ w'.cell? ⟨wr.heap.size, 2, none⟩ = some (.int .u64 (x.t : Int)) ∧ w'.cell? ⟨wr.heap.size, 3, none⟩ = some (.int .u64 (x.v : Int)) ∧ w'.cell? ⟨wr.heap.size, 4, none⟩ = some (.int .i64 x.x)) := fun w' hw => by
    rw [hU] at hw
    have e := hbx.below hw
    have e2 := (hmb.below hw).cell 0
    exact ⟨e2, e.cell 0, e.cell 1, e.cell 2, e.cell 3, e.cell 4⟩
   rw [← hU] at m0 b0 b1 b2 b3 b4 HBX HUB
   have KZ := Lib.hid hkz
   have HU := hU.symm
   clear hhe hpu hUb hbx hft hkc hkx hmb hmm hrk hU hkz HBX KC
   go_wp2_with fail
   clear HU c0 c1 c2' c3 c4
   go_region_with (first
    | (go_at_call 88; refine (HHE.out _).mono ?_; rintro e w7 ⟨hh, hh1, hh6, rfl, hb7'⟩; have hb7 := (below_drew (Below.refl U.heap.size U)).trans hb7'; obtain ⟨m1, d0, d1, d2, d3, d4⟩ := KZ.out w7 hb7)
    | (go_at_call 87; refine (HPU.out _ (later_ HUB.out hb7) hh hh1 hh6).mono ?_; rintro e w8 ⟨bb, ns2, rfl, q1, q2, q3, q4⟩))
   all_goals
    have hst := mm_step HK.out (later_ HUB.out hb7) q1 q2 q3 q4
    rw [← HFT.out] at hst
    have HST := Lib.hid hst
    clear hst q1 q2 q3 q4 hb7 hb7' m1 d0 d1 d2 d3 d4
    go_wp2
    go_roundw
    case rel => exact ⟨k + 1, ns2, by omega, by go_num, HST⟩
    case measure => simp [intOf]; omega
  ·have hki : ((k : Int) < (n : Int)) = False := eq_false (by omega)
   have hall : l.take k = l := List.take_of_length_le (by omega)
   have hkk := HK.out
   rw [hall] at hkk
   obtain ⟨g1, g2, g3, g4⟩ := hkk
   obtain ⟨sz', hmb⟩ := g1.box
   have m0 := hmb.cell 0
   have m5 := hmb.cell 5
   have f5 := hmb.free 5
   simp only [gE0, gE1] at m0 m5
   obtain ⟨N, hN⟩ : ∃ N, N = (its ns').length := ⟨_, rfl⟩
   have hNb : N ≤ 800000 := by
    have h3 := wputs_len l (its ns)
    rw [← g2] at h3
    omega
   have hw28 : IntKind.i64.wrap ((N : Int) * 28) = (N : Int) * 28 := IntWalk.i64_in _ (by omega)
   have hle := slen_any L ns' wr.drew (g1.sk.chg (F := []) (Chg.refl _ wr).drew (fun _ _ => by simp))
   rw [← hN] at hle
   have hst := aistore_any m 5 sz' ((N : Int) * 28) wr.drew m5 f5
   have hc5 := chg_set wr.drew ⟨m, 5, none⟩ (.int .i64 ((N : Int) * 28))
   have hm5 := hmb.drew.store 5 (.int .i64 ((N : Int) * 28))
   simp only [List.set_cons_zero, List.set_cons_succ] at hm5
   have hfin : MmPost w m L ns l (.returned (.int .i64 0)) (wr.drew.setCell ⟨m, 5, none⟩ (.int .i64 ((N : Int) * 28))) := by
    refine ⟨ns', rfl, ⟨⟨_, hm5⟩, (g1.sk.chg (F := []) (Chg.refl _ wr).drew (fun _ _ => by simp)).chg hc5 (fun g hg e => g1.out ((List.mem_singleton.1 e : g = m) ▸ hg)), g1.out⟩, g2, ?_, fun g hg => ?_⟩
    ·exact ((Chg.of_below HB1.out (m :: skF L ns)).trans (g3.drew) (fun g hg => .inl hg)).trans hc5 (fun g hg => .inl (by rw [(List.mem_singleton.1 hg : g = m)]; exact List.mem_cons_self))
    ·rcases g4 g hg with h2 | h2
     ·exact .inl h2
     ·exact .inr (Nat.le_trans HB1.out.size h2)
   have HLE := Lib.hid hle
   have HST := Lib.hid hst
   have HFIN := Lib.hid hfin
   clear hle hst hc5 hm5 hfin g1 g2 g3 g4 hmb HK hN hall
   go_wp2_with fail
   go_region_with (first
    | (go_at_call 90; refine HLE.out.mono ?_; rintro e w7 ⟨rfl, rfl⟩)
    | (go_at_call 89; refine HST.out.mono ?_; rintro e w8 ⟨rfl, rfl⟩))
   all_goals
    go_wp2
    go_ret
    exact HFIN.out
end
section
open Go Go.RowKit Go.Lib
def It.ns (x : It) : List Nat := [x.t, x.v, sgn x.x]
theorem It.one_eq (x : It) : x.one = [UInt8.ofNat x.s.toNat, UInt8.ofNat x.k.toNat] ++ x.ns.flatMap Pn.put := by simp [It.one, It.ns]
theorem iown_apart {w : World} {base size n : Nat} {e : TypeId} {v : Value} {xs : List Value} (h : w.ownsRow base e size v n xs) {g : Nat} (hg : w.heap.size ≤ g) : some g ≠ v.ownBlock := by
 rcases h.2 with ⟨rfl, _⟩ | ⟨g', cap, cur, rfl, _, hh, _⟩
 ·intro e; cases e
 ·have : g' < w.heap.size := (Array.getElem?_eq_some_iff.1 hh).1
  intro e
  have e : g = g' := Option.some.inj e
  omega
theorem BoxO.igrown {w w' : World} {e : TypeId} {g : Nat} {xs : List Value} {r : Option Nat} (h : BoxO w e g xs) (hg : w.grownBy w' r) (hne : some g ≠ r) : BoxO w' e g xs := (hg.block g h.lt hne).trans h
theorem one_take {l : List It} {k : Nat} (h : k < l.length) : (l.take (k + 1)).flatMap It.one = (l.take k).flatMap It.one ++ l[k].one := by
 rw [List.take_succ_eq_append_getElem h, List.flatMap_append]
 simp
theorem ibytes_any (A : Option Addr) (N c : Nat) (b : List UInt8) (L : Option Addr) (m d : Nat) (l : List It) (w : World) (hN : N ≤ 1000000) (hm : m ≤ 2000) (hr : Row w.heap.size w A N 1 (bts b)) (hq : Row w.heap.size w L m 5 (itc l)) (hk : ∀ x ∈ l, x.ok = true ∧ x.fit) :
  Calls Tryz.prog 155 #[.slice A N c, .slice L m d] w fun e w' => ∃ A' M c', e = .returned (.tuple #[.slice A' M c', .int .i64 0]) ∧
   w'.ownsRow w.heap.size 5 1 (.slice A' M c') M (bts (b ++ It.bytes l)) ∧ M ≤ c' ∧ c' ≤ maxLen ∧ Below w.heap.size w w' := by
 obtain ⟨i0, hi0, hz0, hz1, hz2⟩ := info_parts info_u8
 have hln := hr.btlen
 have hmn := hq.itlen
 have hcv : ∀ w, (convert 3 25 (.int .i64 (m : Int))).run Tryz.prog w = .ok (.int .u64 (m : Int)) w := by
  intro w
  have : (m : Int) % 18446744073709551616 = (m : Int) := by omega
  simp [go_sem, convert, IntKind.wrap_u64, this]
 have hal := iall_any L m d l w (by omega) hq
 rw [show l.all It.ok = true from List.all_eq_true.2 fun x hx => (hk x hx).1] at hal
 have hm2 : ((2000 : Int) < (m : Int)) = False := eq_false (by omega)
 have HAL := Lib.hid hal
 have HK := Lib.hid hk
 clear hal hk
 go_enter Tryz.func155, Tryz.ntmps155
 go_wp2_with fail
 refine HAL.out.mono ?_
 rintro e w0 ⟨rfl, hb0⟩
 have hp := put_any A N c b m (by omega) w0 (by omega) ((hr.below hb0).up hb0.size)
 have hq0 := (hq.below hb0).up hb0.size
 have HP := Lib.hid hp
 clear hp HAL
 go_wp2_with fail
 refine HP.out.mono ?_
 rintro e w1 ⟨A1, c1, rfl, ho1, hc1, hm1, hb1⟩
 obtain ⟨M1, hM1⟩ : ∃ M1, M1 = N + (Pn.put m).length := ⟨_, rfl⟩
 have hM1b : M1 ≤ N + 10 := by have := (Pn.put_len m).2; omega
 rw [← hM1] at ho1 hc1 ⊢
 have hq1 := (hq0.below hb1).up hb1.size
 have hb01 := later_ hb0 hb1
 have HO1 := Lib.hid ho1
 have HB01 := Lib.hid hb01
 have HS0 := Lib.hid hb0.size
 clear ho1 hb01 hb1 hb0 hr hq hq0 HP hM1
 go_wp2
 go_loopw [7, 25] (fun o i wr => ∃ (k q : Nat) (A2 : Option Addr) (c2 : Nat), k ≤ m ∧ o = .slice A2 q c2 ∧ i = .int .i64 (k : Int) ∧ Hid (q ≤ 32 * k ∧ wr.ownsRow w1.heap.size 5 1 (.slice A2 q c2) q (bts ((l.take k).flatMap It.one))) ∧ Below w1.heap.size w1 wr) (fun _ i _ => m - (intOf i).toNat)
 case atStart => exact ⟨0, 0, none, 0, Nat.zero_le _, rfl, rfl, Lib.hid ⟨by omega, World.ownsRow_nil _ _ _ _⟩, Below.refl _ _⟩
 case round =>
  obtain ⟨k, q, A2, c2, hkm, rfl, rfl, HQ, hbl⟩ := hrel
  by_cases hlt : k < m
  ·obtain ⟨p, hl, rfl, hbk, d0, d1, d2, d3, d4⟩ := (hq1.below hbl).it hlt
   have hki : (k : Int) < (m : Int) := by omega
   have hwk : IntKind.i64.wrap (k : Int) = (k : Int) := IntWalk.i64_in _ (by omega)
   obtain ⟨hxk, hxf⟩ := HK.out _ (List.getElem_mem hl)
   have hot := one_take hl
   have hq32 := HQ.out.1
   generalize l[k] = x at *
   rw [It.ok_iff] at hxk
   have e1 := iu8_of (x := x.s) (by omega) (by omega)
   have e2 := iu8_of (x := x.k) (by omega) (by omega)
   rw [It.one_eq] at hot
   generalize UInt8.ofNat x.s.toNat = u1 at *
   generalize UInt8.ofNat x.k.toNat = u2 at *
   have hU := (Below.refl wr.heap.size wr).alloc (Nat.le_refl _) (.cells #[.int .i64 x.s, .int .i64 x.k, .int .u64 (x.t : Int), .int .u64 (x.v : Int), .int .i64 x.x] 27)
   have hbx : BoxO (wr.alloc (.cells #[.int .i64 x.s, .int .i64 x.k, .int .u64 (x.t : Int), .int .u64 (x.v : Int), .int .i64 x.x] 27)) 27 wr.heap.size x.cells := BoxO.new wr #[.int .i64 x.s, .int .i64 x.k, .int .u64 (x.t : Int), .int .u64 (x.v : Int), .int .i64 x.x] 27
   obtain ⟨U, hUe⟩ : ∃ U, U = wr.alloc (.cells #[.int .i64 x.s, .int .i64 x.k, .int .u64 (x.t : Int), .int .u64 (x.v : Int), .int .i64 x.x] 27) := ⟨_, rfl⟩
   rw [← hUe] at hU hbx
   have hrow : Row (U.alloc (.cells #[.int .u8 (u1.toNat : Int), .int .u8 (u2.toNat : Int)] 5)).heap.size (U.alloc (.cells #[.int .u8 (u1.toNat : Int), .int .u8 (u2.toNat : Int)] 5)) (some ⟨U.heap.size, 0, none⟩) 2 1 (bts [u1, u2]) := by
    have := Row.new U #[.int .u8 (u1.toNat : Int), .int .u8 (u2.toNat : Int)] 5 (n := 2) (size := 1) rfl
    simpa [bts] using this
   have b0 := hbx.cell 0
   have b1 := hbx.cell 1
   simp only [It.cells, gE0, gE1] at b0 b1
   have hbU := later_ hbl hU
   have hoU := own_below HQ.out.2 hU
   have hbV := hbU.alloc hbU.size (.cells #[.int .u8 (u1.toNat : Int), .int .u8 (u2.toNat : Int)] 5)
   have hoV := hoU.alloc (.cells #[.int .u8 (u1.toNat : Int), .int .u8 (u2.toNat : Int)] 5)
   have hbxV := hbx.alloc (.cells #[.int .u8 (u1.toNat : Int), .int .u8 (u2.toNat : Int)] 5)
   have HROW := Lib.hid hrow
   have HBV := Lib.hid hbV
   have HOV := Lib.hid hoV
   have HBXV := Lib.hid hbxV
   have HOT := Lib.hid hot
   have HXK := Lib.hid hxk
   have HXF := Lib.hid hxf
   have hUs := hUe.symm
   have hsz : wr.heap.size + 1 = U.heap.size := by rw [hUe]; simp
   clear hrow hbV hoV hbxV hot hxk hxf hU hbx hbU hoU hUe
   go_wp2_with (at_builtin; refine stop_in ?_)
   refine stop_out (wpList_app rfl (.tmp 29) (.tmp 36) _ rfl w1.heap.size 5 i0 _ 1 1 Tryz.underlying121 hi0 hz0 hz1 hz2 rfl (by omega) w1 HBV.out HBV.out.size _ q _ rfl HOV.out _ _ 2 2 (bts [u1, u2]) rfl HROW.out (bts_one _) (q + 2) _ rfl rfl (by unfold maxLen; omega) (by omega) ?_)
   intro A3 c3 w3 hown3 hb3 hg3 hc3 hm3
   have hbx3 := HBXV.out.igrown hg3 (iown_apart HQ.out.2 (Nat.le_refl _))
   have hkz : ∀ w', Below w3.heap.size w3 w' → w'.cell? ⟨wr.heap.size, 2, none⟩ = some (.int .u64 (x.t : Int)) ∧ w'.cell? ⟨wr.heap.size, 3, none⟩ = some (.int .u64 (x.v : Int)) ∧ w'.cell? ⟨wr.heap.size, 4, none⟩ = some (.int .i64 x.x) := fun w' h => by
    have e := hbx3.below h
    exact ⟨e.cell 2, e.cell 3, e.cell 4⟩
   have KZ := Lib.hid hkz
   have d0 := hbx3.cell 2
   have d1 := hbx3.cell 3
   have d2 := hbx3.cell 4
   simp only [It.cells, gE0, gE1] at d0 d1 d2
   have hsg := fun W => sign_any x.x HXF.out.1 HXF.out.2 W
   have HSG := Lib.hid hsg
   have HO3 := Lib.hid hown3
   have HB3 := Lib.hid hb3
   have hns : x.ns = [x.t, x.v, sgn x.x] := rfl
   have hn64 : ∀ n ∈ x.ns, n < 18446744073709551616 := by
    have h1 := HXK.out
    have h2 := sgn_lt HXF.out.1 HXF.out.2
    rw [hns]
    intro n hn
    simp only [List.mem_cons, List.not_mem_nil, or_false] at hn
    rcases hn with rfl | rfl | rfl <;> omega
   obtain ⟨sg, hsgn⟩ : ∃ sg, sg = sgn x.x := ⟨_, rfl⟩
   rw [← hsgn] at hns
   have HNS := Lib.hid hns
   have HN64 := Lib.hid hn64
   have HSGN := Lib.hid hsgn
   clear hsg hown3 hb3 hbx3 hns hn64 hsgn hg3 HBV HOV HBXV HROW e1 e2 b0 b1 hUs
   go_wp2_with fail
   clear d0 d1 d2 hkz
   refine wp_region_held_drew (S := fun w' => Below w3.heap.size w3 w') rfl (below_drew (Below.refl _ _)) (fun hSw => ?_)
   refine wpT (i := 0) (v := ?vsg0) ?hsg0 hSw ?ksg0
   case hsg0 => (intro w hSw; (obtain ⟨d0, d1, d2⟩ := KZ.out w hSw); go_simp; try (with_reducible rfl))
   go_simp
   refine wpT (i := 1) (v := ?vsg1) ?hsg1 hSw ?ksg1
   case hsg1 => (intro w hSw; (obtain ⟨d0, d1, d2⟩ := KZ.out w hSw); go_simp; try (with_reducible rfl))
   go_simp
   refine wpT (i := 2) (v := ?vsg2) ?hsg2 hSw ?ksg2
   case hsg2 => (intro w hSw; (obtain ⟨d0, d1, d2⟩ := KZ.out w hSw); go_simp; try (with_reducible rfl))
   go_simp
   refine wpT (i := 3) (v := ?vsg3) ?hsg3 hSw ?ksg3
   case hsg3 => (intro w hSw; (obtain ⟨d0, d1, d2⟩ := KZ.out w hSw); go_simp; try (with_reducible rfl))
   go_simp
   refine wpT (i := 4) (v := ?vsg4) ?hsg4 hSw ?ksg4
   case hsg4 => (intro w hSw; (obtain ⟨d0, d1, d2⟩ := KZ.out w hSw); go_simp; try (with_reducible rfl))
   go_simp
   refine wpT (i := 5) (v := ?vsg5) ?hsg5 hSw ?ksg5
   case hsg5 => (intro w hSw; (obtain ⟨d0, d1, d2⟩ := KZ.out w hSw); go_simp; try (with_reducible rfl))
   go_simp
   refine wpT (i := 9) (v := ?vsg9) ?hsg9 hSw ?ksg9
   case hsg9 => (intro w hSw; (obtain ⟨d0, d1, d2⟩ := KZ.out w hSw); go_simp; try (with_reducible rfl))
   go_simp
   refine wpAnyH_ready (rs := [6]) (by kernel_rfl) (by simp) ?_
   refine AllReadyH.cons rfl (fun K hK => ?_) AllReadyH.nil
   go_simp
   with_reducible refine (HSG.out _).mono ?_
   rintro e w7 ⟨rfl, rfl⟩
   go_simp
   refine hK.out _ _ hSw (fun hSn => ?_)
   clear hK K hSw
   have hSw := hSn
   clear hSn
   go_simp
   refine wpAnyH_ready (rs := [7]) (by kernel_rfl) (by simp) ?_
   refine AllReadyH.cons rfl (fun K hK => ?_) AllReadyH.nil
   skip
   go_simp
   refine hK.out _ _ (hSw.alloc hSw.size _) (fun hSn => ?_)
   clear hK K hSw
   have hSw := hSn
   clear hSn
   go_simp
   refine wpT (i := 8) (v := ?vsg8) ?hsg8 hSw ?ksg8
   case hsg8 => (intro w hSw; (obtain ⟨d0, d1, d2⟩ := KZ.out w hSw); go_simp; try (with_reducible rfl))
   go_simp
   refine wpAnyH_done (by kernel_rfl) ?_ _
   have hsv := hSw
   clear hSw KZ HSG d0 d1 d2 d3 d4
   have hog : some w3.heap.size ≠ (Value.slice A3 (q + 2) c3).ownBlock := iown_apart HO3.out (Nat.le_refl _)
   have hoW := own_below HO3.out hsv
   have hbxW : BoxO (w3.alloc (.cells #[.int .u64 (x.t : Int), .int .u64 (x.v : Int), .int .u64 (sgn x.x : Int)] 25)).drew 25 w3.heap.size (u64v x.ns) := by
    have := (BoxO.new w3 #[.int .u64 (x.t : Int), .int .u64 (x.v : Int), .int .u64 (sgn x.x : Int)] 25).drew
    rw [HNS.out, HSGN.out]
    exact this
   have hb13 := HB3.out.trans (hsv.mono HB3.out.size)
   obtain ⟨g, hg⟩ : ∃ g, g = w3.heap.size := ⟨_, rfl⟩
   rw [← hg] at hog hbxW
   obtain ⟨W, hW⟩ : ∃ W, W = (w3.alloc (.cells #[.int .u64 (x.t : Int), .int .u64 (x.v : Int), .int .u64 (sgn x.x : Int)] 25)).drew := ⟨_, rfl⟩
   rw [← hW] at hoW hbxW hb13 hsv ⊢
   have H0 := Lib.hid (And.intro hoW (And.intro hbxW hb13))
   have HOG := Lib.hid hog
   have hgs := hg.symm
   clear hoW hbxW hb13 hog hW HO3 HB3 hsv hg
   rw [hgs]
   go_wp2_with fail
   go_loopw [7, 47] (fun o i wq => ∃ (j q2 : Nat) (A4 : Option Addr) (c4 : Nat), j ≤ 3 ∧ o = .slice A4 q2 c4 ∧ i = .int .i64 (j : Int) ∧ Hid (q2 ≤ q + 2 + 10 * j ∧ wq.ownsRow w1.heap.size 5 1 (.slice A4 q2 c4) q2 (bts ((l.take k).flatMap It.one ++ ([u1, u2] ++ (x.ns.take j).flatMap Pn.put))) ∧ some g ≠ (Value.slice A4 q2 c4).ownBlock ∧ BoxO wq 25 g (u64v x.ns)) ∧ Below w1.heap.size w1 wq) (fun _ i _ => 3 - (intOf i).toNat)
   case atStart => exact ⟨0, q + 2, A3, c3, by omega, rfl, rfl, Lib.hid ⟨by omega, by have := H0.out.1; simpa [bts] using this, HOG.out, H0.out.2.1⟩, H0.out.2.2⟩
   case round =>
    obtain ⟨j, q2, A4, c4, hj3, rfl, rfl, HJ, hbq⟩ := hrel
    have hxl : x.ns.length = 3 := rfl
    by_cases hjl : j < 3
    ·have hji : (j : Int) < 3 := by omega
     have hwj : IntKind.i64.wrap (j : Int) = (j : Int) := IntWalk.i64_in _ (by omega)
     have hcg := HJ.out.2.2.2.cell j
     rw [u64v_get, List.getElem?_eq_getElem (by omega)] at hcg
     have hn64 := HN64.out _ (List.getElem_mem (show j < x.ns.length by omega))
     have htk : x.ns.take (j + 1) = x.ns.take j ++ [x.ns[j]] := List.take_succ_eq_append_getElem (by omega)
     generalize x.ns[j] = n at *
     simp only [Option.map_some] at hcg
     have hpn := fun W => put_any none 0 0 [] n hn64 W (by omega) Row.nil_
     have hpl := Pn.put_len n
     simp only [Nat.zero_add, List.nil_append] at hpn
     have HPN := Lib.hid hpn
     have HTK := Lib.hid htk
     clear hpn htk
     go_wp2_with fail
     refine (HPN.out _).mono ?_
     rintro e w7 ⟨A5, c5, rfl, ho5, h51, h52, hb5⟩
     have hr5 := Row.own ho5
     have ho4 := own_below HJ.out.2.1 hb5
     have hbx5 := HJ.out.2.2.2.below hb5
     have hbq5 := hbq.trans (hb5.mono hbq.size)
     have hg7 := hbx5.lt
     generalize hpln : (Pn.put n).length = pl at *
     have hq2 := HJ.out.1
     have HR5 := Lib.hid hr5
     have HO4 := Lib.hid ho4
     have HBX5 := Lib.hid hbx5
     have HBQ5 := Lib.hid hbq5
     clear ho5 hr5 ho4 hbx5 hbq5 HPN hb5
     go_wp2_with (at_builtin; refine stop_in ?_)
     refine stop_out (wpList_appF rfl (.tmp 51) (.tmp 53) _ rfl w1.heap.size 5 i0 _ 1 1 Tryz.underlying121 hi0 hz0 hz1 hz2 rfl (by omega) w1 HBQ5.out HBQ5.out.size _ q2 _ rfl HO4.out _ _ pl c5 (by omega) (bts (Pn.put n)) rfl HR5.out (bts_one _) (q2 + pl) (bts ((l.take k).flatMap It.one ++ ([u1, u2] ++ (x.ns.take (j + 1)).flatMap Pn.put))) rfl (by rw [HTK.out]; simp [bts]) (by unfold maxLen; omega) (by omega) ?_)
     intro A6 c6 w8 z1 z2 z3 z4 z5 z6
     have hng : some g ≠ (Value.slice A6 (q2 + pl) c6).ownBlock := by
      rcases z6 with z6 | z6
      ·rw [z6]; exact HJ.out.2.2.1
      ·rw [z6]
       intro e
       have e := Option.some.inj e
       omega
     have HF := Lib.hid (And.intro (show q2 + pl ≤ q + 2 + 10 * (j + 1) by omega) (And.intro z1 (And.intro hng (HBX5.out.igrown z3 HJ.out.2.2.1))))
     clear z1 z3 z6 hng HR5 HO4 HBX5 HBQ5 hcg
     go_wp2
     go_roundw
     case rel => exact ⟨j + 1, q2 + pl, A6, c6, by omega, rfl, by go_num, HF, z2⟩
     case measure => simp [intOf]; omega
    ·have hji : ((j : Int) < 3) = False := eq_false (by omega)
     have hj : j = 3 := by omega
     have htk : x.ns.take j = x.ns := List.take_of_length_le (by omega)
     have ho := HJ.out.2.1
     rw [htk, ← HOT.out] at ho
     have HF := Lib.hid (And.intro (show q2 ≤ 32 * (k + 1) by have := HJ.out.1; omega) ho)
     clear ho htk
     go_wp2
     go_roundw
     case rel => exact ⟨k + 1, q2, A4, c4, by omega, rfl, by go_num, HF, hbq⟩
     case measure => simp [intOf]; omega
  ·have hki : ((k : Int) < (m : Int)) = False := eq_false (by omega)
   have hall : l.take k = l := List.take_of_length_le (by omega)
   have hq := HQ.out
   rw [hall] at hq
   have hro := Row.own hq.2
   have hoo := own_base (own_below HO1.out hbl) HS0.out
   have hbz := HB01.out.trans (hbl.mono HB01.out.size)
   have hqb := hq.1
   have HRO := Lib.hid hro
   have HOO := Lib.hid hoo
   have HBZ := Lib.hid hbz
   clear hq hro hoo hbz hall
   go_wp2_with (at_builtin; refine stop_in ?_)
   refine stop_out (wpList_app rfl (.tmp 57) (.tmp 58) _ rfl w.heap.size 5 i0 _ 1 1 Tryz.underlying121 hi0 hz0 hz1 hz2 rfl (by omega) w HBZ.out HBZ.out.size _ M1 _ rfl HOO.out _ _ q c2 _ rfl HRO.out (bts_one _) (M1 + q) (bts (b ++ It.bytes l)) rfl (by simp [It.bytes, bts, hmn]) (by unfold maxLen; omega) (by omega) ?_)
   intro A6 c6 w8 z1 z2 z3 z4 z5
   have HF := Lib.hid z1
   clear z1 z3 HRO HOO HBZ HQ
   go_wp2
   go_ret2
   exact ⟨A6, _, c6, rfl, HF.out, z4, z5, z2⟩
end
section
namespace It
variable {b r : List UInt8} {ns : List Nat} {k : Nat}
end It
end
end Go.Proofs.YtdkjoigpahafmaaGreatDoor
