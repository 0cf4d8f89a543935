/-
  The walks of the versions: stamp.Make, Split, New, Next, See, Now, Lease, Renew: what each computes, and what becomes of the clock's own block.
-/
import Derived.Test.YtmfobogicdeokaaRows
import Derived.Test.YtmfobogicdeokaaMem
import Derived.Test.YtmfobogicdeokaaBits
import Derived.Lib.Hide
import Derived.WalkKit
import Derived.WalkSpells
import Derived.WalkLawsBesides
import Derived.Deep.RegionWith
import Derived.Lib.MinMax
namespace Go.Proofs.Ytmfobogicdeokaa
open Go.RowKit

/-- A clock's block: its node, its counter, its lease. -/
def Clk (w : World) (g : Nat) (node now lease : Nat) : Prop := w.heap[g]? = some (.cells #[.int .i64 (node : Int), .int .u64 (now : Int), .int .u64 (lease : Int)] 77 (0, 0))
section
variable {w w' : World} {g node now lease : Nat}
theorem Clk.c0 (h : Clk w g node now lease) : w.cell? ⟨g, 0, none⟩ = some (.int .i64 (node : Int)) := by rw [cell_of_row w g 0 _ _ _ h]; rfl
theorem Clk.c1 (h : Clk w g node now lease) : w.cell? ⟨g, 1, none⟩ = some (.int .u64 (now : Int)) := by rw [cell_of_row w g 1 _ _ _ h]; rfl
theorem Clk.c2 (h : Clk w g node now lease) : w.cell? ⟨g, 2, none⟩ = some (.int .u64 (lease : Int)) := by rw [cell_of_row w g 2 _ _ _ h]; rfl
theorem Clk.fz (h : Clk w g node now lease) (i : Nat) : w.frozen? ⟨g, i, none⟩ = false := by
  unfold Clk at h
  simp [World.frozen?, h]
theorem Clk.lt (h : Clk w g node now lease) : g < w.heap.size := (Array.getElem?_eq_some_iff.1 h).1
theorem Clk.drew (h : Clk w g node now lease) : Clk w.drew g node now lease := h
theorem Clk.below {B : Nat} (h : Clk w g node now lease) (hb : Below B w w') (hg : g < B) : Clk w' g node now lease := (hb.block g hg).trans h
theorem Clk.kept {row : Option Nat} (h : Clk w g node now lease) (hb : w.grownBy w' row) (hg : some g ≠ row) : Clk w' g node now lease := (hb.block g h.lt hg).trans h
theorem Clk.set1 (h : Clk w g node now lease) (n : Nat) : Clk (w.setCell ⟨g, 1, none⟩ (.int .u64 (n : Int))) g node n lease := by
  unfold Clk at h ⊢
  simp [World.setCell, Array.getElem?_modify, h]
theorem Clk.set2 (h : Clk w g node now lease) (n : Nat) : Clk (w.setCell ⟨g, 2, none⟩ (.int .u64 (n : Int))) g node now n := by
  unfold Clk at h ⊢
  simp [World.setCell, Array.getElem?_modify, h]
theorem grown_set (g i : Nat) (u : Value) : w.grownBy (w.setCell ⟨g, i, none⟩ u) (some g) :=
  ⟨rfl, rfl, rfl, by simp [World.setCell], fun k _ hne => Below.heap_setCell w ⟨g, i, none⟩ u k (fun e => hne (by rw [e]))⟩
theorem grown_drew {a : World} {row : Option Nat} (h : a.grownBy w row) : a.grownBy w.drew row := ⟨h.os, h.tape, h.output, h.size, h.block⟩
theorem grown_of_below {a : World} (h : Below a.heap.size a w) (row : Option Nat) : a.grownBy w row := ⟨h.os, h.tape, h.output, h.size, fun k hk _ => h.block k hk⟩
theorem grown_trans {a b c : World} {row : Option Nat} (h : a.grownBy b row) (k : b.grownBy c row) : a.grownBy c row :=
  ⟨k.os.trans h.os, k.tape.trans h.tape, k.output.trans h.output, Nat.le_trans h.size k.size, fun i hi hne => (k.block i (Nat.lt_of_lt_of_le hi h.size) hne).trans (h.block i hi hne)⟩
end

/-- sync/atomic at a cell of 64 bits, in one goroutine. -/
theorem atomic_load {w : World} {a : Addr} {x : Int} (hc : w.cell? a = some (.int .u64 x)) : (callFunc 42 #[.pointer (some a)]).run Try.prog w = .ok (.value (.int .u64 x)) w :=
  run_call_load Try.func42 (by kernel_rfl) (by kernel_rfl) (by kernel_rfl) .u64 (by kernel_rfl) hc
theorem atomic_store {w : World} {a : Addr} {y : Int} {u : Value} (hc : w.cell? a = some u) (hz : w.frozen? a = false) : (callFunc 41 #[.pointer (some a), .int .u64 y]).run Try.prog w = .ok (.value (.tuple #[])) (w.setCell a (.int .u64 y)) :=
  run_call_store Try.func41 (by kernel_rfl) (by kernel_rfl) (by kernel_rfl) (by kernel_rfl) hc hz
theorem atomic_add {w : World} {a : Addr} {x y : Int} (hc : w.cell? a = some (.int .u64 x)) (hz : w.frozen? a = false) (hb : 0 ≤ x + y ∧ x + y < 18446744073709551616) : (callFunc 43 #[.pointer (some a), .int .u64 y]).run Try.prog w = .ok (.value (.int .u64 (x + y))) (w.setCell a (.int .u64 (x + y))) := by
  refine run_call_add Try.func43 (by kernel_rfl) (by kernel_rfl) (by kernel_rfl) .u64 (by kernel_rfl) hc hz ?_
  have e : IntKind.u64.wrap (x + y) = x + y := by rw [IntKind.wrap_u64]; omega
  simp [Op.intArith, e]

set_option maxHeartbeats 400000 in
theorem lease_any (g node now lease : Nat) (w : World) (h : Clk w g node now lease) :
    Calls Try.prog 24 #[.pointer (some ⟨g, 0, none⟩)] w fun e w' => e = .returned (.int .u64 (lease : Int)) ∧ w = w' := by
  have h2 := atomic_load h.c2
  go_enter Try.func24, Try.ntmps24
  go_wp2
  go_ret
  exact ⟨rfl, rfl⟩

set_option maxHeartbeats 400000 in
theorem now_any (g node now lease : Nat) (w : World) (h : Clk w g node now lease) :
    Calls Try.prog 29 #[.pointer (some ⟨g, 0, none⟩)] w fun e w' => e = .returned (.int .u64 (now : Int)) ∧ w = w' := by
  have h2 := atomic_load h.c1
  go_enter Try.func29, Try.ntmps29
  go_wp2
  go_ret
  exact ⟨rfl, rfl⟩

set_option maxHeartbeats 400000 in
theorem renew_no (g node now lease to : Nat) (w : World) (h : Clk w g node now lease) (hto : to ≤ lease ∨ 1099511627776 < to) :
    Calls Try.prog 22 #[.pointer (some ⟨g, 0, none⟩), .int .u64 (to : Int)] w fun e w' => e = .returned (.bool false) ∧ w = w' := by
  have h2 := atomic_load h.c2
  by_cases h3 : to ≤ lease
  · go_enter Try.func22, Try.ntmps22
    go_wp2
    go_ret
    exact ⟨rfl, rfl⟩
  · have h4 : (1099511627776 : Int) < (to : Int) := by omega
    go_enter Try.func22, Try.ntmps22
    go_wp2
    go_ret
    exact ⟨rfl, rfl⟩

set_option maxHeartbeats 400000 in
theorem store_any (b o : Nat) (y : Int) (u : Value) (w : World) (hc : w.cell? ⟨b, o, none⟩ = some u) (hz : w.frozen? ⟨b, o, none⟩ = false) :
    Calls Try.prog 37 #[.pointer (some ⟨b, o, none⟩), .int .u64 y] w fun e w' => e = .returned (.tuple #[]) ∧ w.setCell ⟨b, o, none⟩ (.int .u64 y) = w' := by
  have h3 := atomic_store (y := y) hc hz
  go_enter Try.func37, Try.ntmps37
  go_wp2
  go_end0
  exact ⟨rfl, rfl⟩

set_option maxHeartbeats 400000 in
theorem load_any (b o : Nat) (x : Int) (w : World) (hc : w.cell? ⟨b, o, none⟩ = some (.int .u64 x)) :
    Calls Try.prog 38 #[.pointer (some ⟨b, o, none⟩)] w fun e w' => e = .returned (.int .u64 x) ∧ w = w' := by
  have h3 := atomic_load hc
  go_enter Try.func38, Try.ntmps38
  go_wp2
  go_ret
  exact ⟨rfl, rfl⟩

set_option maxHeartbeats 400000 in
theorem renew_yes (g node now lease to : Nat) (w : World) (h : Clk w g node now lease) (hto : lease < to) (hto2 : to ≤ 1099511627776) :
    Calls Try.prog 22 #[.pointer (some ⟨g, 0, none⟩), .int .u64 (to : Int)] w fun e w' => e = .returned (.bool true) ∧ Clk w' g node now to ∧ w.grownBy w' (some g) := by
  have h4 : ¬ to ≤ lease := by omega
  have h5 : ¬ (1099511627776 : Int) < (to : Int) := by omega
  go_enter Try.func22, Try.ntmps22
  go_wp2_with (first | (go_at_call 38; refine (load_any _ _ _ w h.c2).mono ?_; rintro e w' ⟨rfl, rfl⟩) | (go_at_call 37; refine (store_any _ _ _ _ w h.c2 (h.fz 2)).mono ?_; rintro e w' ⟨rfl, rfl⟩))
  go_ret
  exact ⟨rfl, h.set2 to, grown_set g 2 _⟩

set_option maxHeartbeats 400000 in
theorem make_ok (counter node : Nat) (w : World) (hn : node ≤ 6) (h1 : 1 ≤ counter) (h2 : counter ≤ 1099511627776) :
    Calls Try.prog 26 #[.int .u64 (counter : Int), .int .i64 (node : Int)] w fun e w' => e = .returned (.tuple #[.int .u64 ((counter * 8 + node : Nat) : Int), .int .i64 0]) ∧ w = w' := by
  go_enter Try.func26, Try.ntmps26
  go_wp2
  go_ret2
  exact ⟨rfl, rfl⟩

set_option maxHeartbeats 400000 in
theorem make_arg (counter node : Int) (w : World) (hn : node < 0 ∨ 6 < node) :
    Calls Try.prog 26 #[.int .u64 counter, .int .i64 node] w fun e w' => e = .returned (.tuple #[.int .u64 0, .int .i64 1]) ∧ w = w' := by
  by_cases h0 : node < 0
  · go_enter Try.func26, Try.ntmps26
    go_wp2
    go_ret2
    exact ⟨rfl, rfl⟩
  · have h6 : 6 < node := by omega
    go_enter Try.func26, Try.ntmps26
    go_wp2
    go_ret2
    exact ⟨rfl, rfl⟩

set_option maxHeartbeats 400000 in
theorem make_over (counter node : Int) (w : World) (hn : 0 ≤ node) (hn6 : node ≤ 6) (hc : counter < 1 ∨ 1099511627776 < counter) :
    Calls Try.prog 26 #[.int .u64 counter, .int .i64 node] w fun e w' => e = .returned (.tuple #[.int .u64 0, .int .i64 16]) ∧ w = w' := by
  by_cases h0 : counter < 1
  · go_enter Try.func26, Try.ntmps26
    go_wp2
    go_ret2
    exact ⟨rfl, rfl⟩
  · have h6 : 1099511627776 < counter := by omega
    go_enter Try.func26, Try.ntmps26
    go_wp2
    go_ret2
    exact ⟨rfl, rfl⟩

set_option maxHeartbeats 400000 in
theorem split_any (v : Nat) (w : World) (hv : v < 18446744073709551616) :
    Calls Try.prog 27 #[.int .u64 (v : Int)] w fun e w' => e = .returned (.tuple #[.int .u64 ((v / 8 : Nat) : Int), .int .i64 ((v % 8 : Nat) : Int)]) ∧ w = w' := by
  go_enter Try.func27, Try.ntmps27
  go_wp2
  go_ret2
  exact ⟨rfl, rfl⟩

set_option maxHeartbeats 400000 in
theorem new_arg (node frm : Int) (w : World) (hn : node < 0 ∨ 6 < node) :
    Calls Try.prog 21 #[.int .i64 node, .int .u64 frm] w fun e w' => e = .returned (.tuple #[.pointer none, .int .i64 1]) ∧ w = w' := by
  by_cases h0 : node < 0
  · go_enter Try.func21, Try.ntmps21
    go_wp2
    go_ret2
    exact ⟨rfl, rfl⟩
  · have h6 : 6 < node := by omega
    go_enter Try.func21, Try.ntmps21
    go_wp2
    go_ret2
    exact ⟨rfl, rfl⟩

set_option maxHeartbeats 400000 in
theorem new_over (node frm : Int) (w : World) (hn : 0 ≤ node) (hn6 : node ≤ 6) (h6 : 1099511627776 < frm) :
    Calls Try.prog 21 #[.int .i64 node, .int .u64 frm] w fun e w' => e = .returned (.tuple #[.pointer none, .int .i64 16]) ∧ w = w' := by
  go_enter Try.func21, Try.ntmps21
  go_wp2
  go_ret2
  exact ⟨rfl, rfl⟩

set_option maxHeartbeats 400000 in
theorem new_ok (node frm : Nat) (w : World) (hn6 : node ≤ 6) (h6 : frm ≤ 1099511627776) :
    Calls Try.prog 21 #[.int .i64 (node : Int), .int .u64 (frm : Int)] w fun e w' => ∃ g, e = .returned (.tuple #[.pointer (some ⟨g, 0, none⟩), .int .i64 0]) ∧ w.heap.size ≤ g ∧ Clk w' g node frm frm ∧ Below w.heap.size w w' := by
  have hn6' : (node : Int) ≤ 6 := by omega
  have h6' : (frm : Int) ≤ 1099511627776 := by omega
  go_enter Try.func21, Try.ntmps21
  go_wp2_with (go_at_call 37; refine stop_in ?_)
  have hk : Clk (w.alloc (.cells #[.int .i64 (node : Int), .int .u64 0, .int .u64 0] 77)) w.heap.size node 0 0 := heap_alloc_new w _
  refine stop_out ((store_any _ _ _ _ _ hk.c1 (hk.fz 1)).mono ?_)
  rintro e w1 ⟨rfl, hw1⟩
  have hk1 := hk.set1 frm
  have hb1 : Below w.heap.size w w1 := by rw [← hw1]; exact ((Below.refl _ _).alloc (Nat.le_refl _) _).setCell (Nat.le_refl _) _
  rw [hw1] at hk1
  clear hw1
  go_wp2_with (go_at_call 37; refine stop_in ?_)
  refine stop_out ((store_any _ _ _ _ _ hk1.c2 (hk1.fz 2)).mono ?_)
  rintro e w2 ⟨rfl, hw2⟩
  have hk2 := hk1.set2 frm
  have hb2 : Below w.heap.size w w2 := by rw [← hw2]; exact hb1.setCell (Nat.le_refl _) _
  rw [hw2] at hk2
  clear hw2
  go_wp2
  go_ret2
  exact ⟨_, rfl, Nat.le_refl _, hk2, hb2⟩

set_option maxHeartbeats 400000 in
theorem next_end (g node now lease : Nat) (w : World) (h : Clk w g node now lease) (hn : 1099511627776 ≤ now) :
    Calls Try.prog 23 #[.pointer (some ⟨g, 0, none⟩)] w fun e w' => e = .returned (.tuple #[.int .u64 0, .int .i64 16]) ∧ w = w' := by
  have h1 := atomic_load h.c1
  have hn' : (1099511627776 : Int) ≤ (now : Int) := by omega
  go_enter Try.func23, Try.ntmps23
  go_wp2
  go_ret2
  exact ⟨rfl, rfl⟩

set_option maxHeartbeats 400000 in
theorem next_lease (g node now lease : Nat) (w : World) (h : Clk w g node now lease) (hn : now < 1099511627776) (hl : lease ≤ now) :
    Calls Try.prog 23 #[.pointer (some ⟨g, 0, none⟩)] w fun e w' => e = .returned (.tuple #[.int .u64 0, .int .i64 19]) ∧ w = w' := by
  have h1 := atomic_load h.c1
  have h2 := atomic_load h.c2
  have hn' : ¬ (1099511627776 : Int) ≤ (now : Int) := by omega
  go_enter Try.func23, Try.ntmps23
  go_wp2
  go_ret2
  exact ⟨rfl, rfl⟩

set_option maxHeartbeats 400000 in
theorem add1_any (b o x : Nat) (w : World) (hc : w.cell? ⟨b, o, none⟩ = some (.int .u64 (x : Int))) (hz : w.frozen? ⟨b, o, none⟩ = false) (hb : x < 1099511627776) :
    Calls Try.prog 39 #[.pointer (some ⟨b, o, none⟩), .int .u64 1] w fun e w' => e = .returned (.int .u64 ((x + 1 : Nat) : Int)) ∧ w.setCell ⟨b, o, none⟩ (.int .u64 ((x + 1 : Nat) : Int)) = w' := by
  have h3 := atomic_add (y := 1) hc hz (by omega)
  clear hb
  go_enter Try.func39, Try.ntmps39
  go_wp2
  go_ret
  exact ⟨rfl, rfl⟩

set_option maxHeartbeats 400000 in
theorem next_ok (g node now lease : Nat) (w : World) (h : Clk w g node now lease) (hn : now < 1099511627776) (hl : now < lease) (hnode : node ≤ 6) :
    Calls Try.prog 23 #[.pointer (some ⟨g, 0, none⟩)] w fun e w' => e = .returned (.tuple #[.int .u64 (((now + 1) * 8 + node : Nat) : Int), .int .i64 0]) ∧ Clk w' g node (now + 1) lease ∧ w.grownBy w' (some g) := by
  have h1 := atomic_load h.c1
  have h2 := atomic_load h.c2
  have hn' : ¬ (1099511627776 : Int) ≤ (now : Int) := by omega
  have hl' : ¬ lease ≤ now := by omega
  have h0 := h.drew.c0
  go_enter Try.func23, Try.ntmps23
  go_wp2
  go_region_with (first
    | (go_at_call 39; refine (add1_any _ _ now _ h.drew.c1 (h.drew.fz 1) hn).mono ?_; rintro e w1 ⟨rfl, hw1⟩; have hk1 := h.drew.set1 (now + 1); rw [hw1] at hk1; have h01 := hk1.c0; have hg1 : w.grownBy w1 (some g) := (by rw [← hw1]; exact grown_trans (grown_drew (World.grownBy.refl w _)) (grown_set g 1 _)); clear hw1)
    | (go_at_call 26; refine (make_ok (now + 1) node _ hnode (by omega) (by omega)).mono ?_; rintro e w2 ⟨rfl, rfl⟩))
  all_goals go_wp2
  all_goals go_ret2
  all_goals exact ⟨rfl, hk1, hg1⟩

set_option maxHeartbeats 400000 in
theorem see_any (g node now lease v : Nat) (w : World) (h : Clk w g node now lease) (hv : v < 18446744073709551616) :
    Calls Try.prog 28 #[.pointer (some ⟨g, 0, none⟩), .int .u64 (v : Int)] w fun e w' => e = .returned (.tuple #[]) ∧ Clk w' g node (max now (min (v / 8) 1099511627776)) lease ∧ w.grownBy w' (some g) := by
  have hmm : ((max now (min (v / 8) 1099511627776) : Nat) : Int) = max (now : Int) (min ((v : Int) / 8) 1099511627776) := by omega
  have HMM := Lib.hid hmm
  clear hmm
  go_enter Try.func28, Try.ntmps28
  go_wp2_with (go_at_call 27; refine (split_any v _ hv).mono ?_; rintro e w1 ⟨rfl, rfl⟩)
  go_region_with (first
    | (go_at_call 38; refine (load_any _ _ _ _ h.drew.c1).mono ?_; rintro e w1 ⟨rfl, rfl⟩)
    | (go_at_call 37; refine (store_any _ _ _ _ _ h.drew.c1 (h.drew.fz 1)).mono ?_; rintro e w1 ⟨rfl, hw1⟩; have hk1 := h.drew.set1 (max now (min (v / 8) 1099511627776)); rw [HMM.out, hw1] at hk1; have hg1 : w.grownBy w1 (some g) := (by rw [← hw1]; exact grown_trans (grown_drew (World.grownBy.refl w _)) (grown_set g 1 _)); clear hw1))
  all_goals go_wp2
  all_goals go_end0
  all_goals exact ⟨rfl, hk1, hg1⟩
end Go.Proofs.Ytmfobogicdeokaa
