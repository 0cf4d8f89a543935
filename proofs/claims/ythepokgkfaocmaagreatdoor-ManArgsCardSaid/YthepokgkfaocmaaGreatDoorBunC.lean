/- Texts EditA, EditB, EditC in one. No conditions. -/
import Derived.Test.YthepokgkfaocmaaGreatDoorBunB
import Derived.Lib.MinMax
import Derived.StillTailTactics
import Derived.Test.YthepokgkfaocmaaGreatDoorBunA

/-
  The walks of edit's small words: meta, isNum, and searches in slices of nothing.
-/
namespace Go.Proofs.YthepokgkfaocmaaGreatDoor
open Go.RowKit

def bigs (ns : List Nat) : Bool := ns.any fun n => decide (281474976710656 < n)
theorem big_any (n : Nat) (w : World) : Calls Tryz.prog 96 #[.int .u64 (n : Int)] w fun e w' => e = .returned (.bool (decide ((281474976710656 : Int) < (n : Int)))) ∧ w = w' := by
  go_enter Tryz.func96, Tryz.ntmps96
  go_wp2
  go_ret
  exact ⟨rfl, rfl⟩

theorem bigs_take {ns : List Nat} {k : Nat} (hl : k < ns.length) : bigs (ns.take (k + 1)) = (bigs (ns.take k) || decide (281474976710656 < ns[k])) := by
  have h := (List.take_append_getElem hl).symm
  unfold bigs
  rw [h, List.any_append]
  simp
theorem bigs_of {ns : List Nat} {k : Nat} (hl : k < ns.length) (h : 281474976710656 < ns[k]) : bigs ns = true := by
  unfold bigs
  rw [List.any_eq_true]
  exact ⟨ns[k], List.getElem_mem hl, by simpa using h⟩

set_option maxRecDepth 100000 in
theorem bigs_idx (A : Option Addr) (n c : Nat) (ns : List Nat) (w : World) (hn : n ≤ 1000) (hr : Row w.heap.size w A n 1 (u64v ns)) :
    Calls Tryz.prog 119 #[.slice A n c, .func (.func 96) #[] #[]] w fun e w' => (∃ i : Int, e = .returned (.int .i64 i) ∧ decide (0 ≤ i) = bigs ns) ∧ w = w' := by
  have hnn := hr.unlen
  go_enter Tryz.func119, Tryz.ntmps119
  go_wp2
  go_loop [8] (fun i => ∃ k : Nat, k ≤ n ∧ i = .int .i64 (k : Int) ∧ Hid (bigs (ns.take k) = false)) (fun i => n - (intOf i).toNat)
  case atStart => exact ⟨0, Nat.zero_le _, rfl, Lib.hid rfl⟩
  case round =>
    obtain ⟨k, hk, rfl, hb⟩ := hrel
    by_cases hlt : k < n
    · obtain ⟨a, hl, rfl, _, hc⟩ := hr.un hlt
      have ht := bigs_take hl
      have hof := bigs_of hl
      generalize ns[k] = x at *
      have HT := Lib.hid ht
      clear ht
      by_cases hx : 281474976710656 < x
      · have HO := Lib.hid (hof hx)
        have hx' : (281474976710656 : Int) < (x : Int) := by omega
        clear hof
        go_wp2_with fail
        refine (big_any x w).mono ?_
        rintro e w1 ⟨rfl, rfl⟩
        go_wp2
        go_ret
        exact ⟨⟨k, rfl, by have h : bigs ns = true := HO; rw [h]; simp⟩, rfl⟩
      · have hx' : ((281474976710656 : Int) < (x : Int)) = False := by simp; omega
        clear hof
        go_wp2_with fail
        refine (big_any x w).mono ?_
        rintro e w1 ⟨rfl, rfl⟩
        go_wp2
        go_round
        case rel =>
          refine ⟨k + 1, by omega, by go_num, Lib.hid ?_⟩
          have ht : bigs (ns.take (k + 1)) = (bigs (ns.take k) || decide (281474976710656 < x)) := HT
          have hb' : bigs (ns.take k) = false := hb
          rw [ht, hb']
          simpa using hx
        case measure => simp [intOf]; omega
    · have hall : bigs ns = false := by
        have hb' : bigs (ns.take k) = false := hb
        rwa [List.take_of_length_le (by omega)] at hb'
      have HA := Lib.hid hall
      clear hall
      go_wp2
      go_ret
      exact ⟨⟨-1, rfl, by have h : bigs ns = false := HA; rw [h]; rfl⟩, rfl⟩
theorem bigs_has (A : Option Addr) (n c : Nat) (ns : List Nat) (w : World) (hn : n ≤ 1000) (hr : Row w.heap.size w A n 1 (u64v ns)) :
    Calls Tryz.prog 95 #[.slice A n c, .func (.func 96) #[] #[]] w fun e w' => e = .returned (.bool (bigs ns)) ∧ w = w' := by
  go_enter Tryz.func95, Tryz.ntmps95
  go_wp2_with fail
  refine (bigs_idx A n c ns w hn hr).mono ?_
  rintro e w' ⟨⟨i, rfl, hi⟩, rfl⟩
  have HI := Lib.hid hi
  clear hi
  go_wp2
  go_ret
  refine ⟨?_, rfl⟩
  have hi : decide (0 ≤ i) = bigs ns := HI
  rw [← hi]
  rfl

theorem ints_idx (A : Option Addr) (c : Nat) (F : Value) (w : World) : Calls Tryz.prog 122 #[.slice A 0 c, F] w fun e w' => e = .returned (.int .i64 (-1)) ∧ w = w' := by
  go_enter Tryz.func122, Tryz.ntmps122
  go_wp2
  go_loop [8] (fun i => i = .int .i64 0) (fun _ => 0)
  case atStart => rfl
  case round =>
    obtain rfl := hrel
    go_wp2
    go_ret
    exact ⟨rfl, rfl⟩
theorem ints_none (A : Option Addr) (c : Nat) (F : Value) (w : World) : Calls Tryz.prog 99 #[.slice A 0 c, F] w fun e w' => e = .returned (.bool false) ∧ w = w' := by
  go_enter Tryz.func99, Tryz.ntmps99
  go_wp2_with fail
  refine (ints_idx A c F w).mono ?_
  rintro e w' ⟨rfl, rfl⟩
  go_wp2
  go_ret
  exact ⟨rfl, rfl⟩

theorem files_idx (A : Option Addr) (c : Nat) (F : Value) (w : World) : Calls Tryz.prog 74 #[.slice A 0 c, F] w fun e w' => e = .returned (.int .i64 (-1)) ∧ w = w' := by
  go_enter Tryz.func74, Tryz.ntmps74
  go_wp2
  go_loop [8] (fun i => i = .int .i64 0) (fun _ => 0)
  case atStart => rfl
  case round =>
    obtain rfl := hrel
    go_wp2
    go_ret
    exact ⟨rfl, rfl⟩
theorem files_none (A : Option Addr) (c : Nat) (F : Value) (w : World) : Calls Tryz.prog 64 #[.slice A 0 c, F] w fun e w' => e = .returned (.bool false) ∧ w = w' := by
  go_enter Tryz.func64, Tryz.ntmps64
  go_wp2_with fail
  refine (files_idx A c F w).mono ?_
  rintro e w' ⟨rfl, rfl⟩
  go_wp2
  go_ret
  exact ⟨rfl, rfl⟩
set_option maxRecDepth 100000 in
theorem meta_any (A : Option Addr) (n c : Nat) (ns : List Nat) (w : World) (hn : n ≤ 1000) (hr : Row w.heap.size w A n 1 (u64v ns)) :
    Calls Tryz.prog 62 #[.slice A n c] w fun e w' => e = .returned (.bool (!bigs ns)) ∧ w = w' := by
  go_enter Tryz.func62, Tryz.ntmps62
  go_wp2_with fail
  refine (bigs_has A n c ns w hn hr).mono ?_
  rintro e w' ⟨rfl, rfl⟩
  go_wp2
  go_ret
  exact ⟨rfl, rfl⟩
end Go.Proofs.YthepokgkfaocmaaGreatDoor

/-
  The walks of edit.may and edit.Put, for changes that speak of no files.
-/
namespace Go.Proofs.YthepokgkfaocmaaGreatDoor
open Go.RowKit

theorem base_add (g t : Nat) : (⟨g, 0, none⟩ : Addr).add t = ⟨g, t, none⟩ := by
  unfold Addr.add
  split
  · subst_vars; rfl
  · simp
/-- A change that speaks of no files, as a value. -/
def edV (g f c a l : Int) : Value := .agg #[.slice none 0 0, .slice none 0 0, .int .i64 g, .int .u64 f, .int .u64 c, .int .u64 a, .int .u64 l]
theorem u64_row (w : World) (e : TypeId) (cs : Array Value) (ns : List Nat) (n : Nat) (h : cs.toList = u64v ns) (hn : ns.length = n) : Row (w.alloc (.cells cs e)).heap.size (w.alloc (.cells cs e)) (some ⟨w.heap.size, 0, none⟩) n 1 (u64v ns) := by
  have h1 := (Row.new w cs e (n := n) (size := 1) (by rw [← Array.length_toList, h]; simp [u64v, hn])).up (B' := (w.alloc (.cells cs e)).heap.size) (by simp)
  rwa [h] at h1


set_option maxRecDepth 100000 in
set_option maxHeartbeats 1000000 in
theorem may_bare (g f c a l : Nat) (w : World) (hg : g ≤ 1073741824) (hb : bigs [f, c, a, l] = false) : Calls Tryz.prog 72 #[edV g f c a l] w fun e w' => e = .returned (.bool true) ∧ Below w.heap.size w w' := by
  unfold edV
  have hg' : ((g : Int) ≤ 1073741824) := by omega
  have HB := Lib.hid hb
  clear hb
  go_enter Tryz.func72, Tryz.ntmps72
  go_wp2_with fail
  have hrow := u64_row (w.alloc (.cells #[.slice none 0 0, .slice none 0 0, .int .i64 (g : Int), .int .u64 (f : Int), .int .u64 (c : Int), .int .u64 (a : Int), .int .u64 (l : Int)] 39)) 29 #[.int .u64 (f : Int), .int .u64 (c : Int), .int .u64 (a : Int), .int .u64 (l : Int)] [f, c, a, l] 4 rfl rfl
  have hmeta := meta_any _ 4 4 [f, c, a, l] _ (by omega) hrow
  rw [show bigs [f, c, a, l] = false from HB] at hmeta
  simp only [World.size_alloc, Bool.not_false] at hmeta
  clear hrow
  refine hmeta.mono ?_
  rintro e w1 ⟨rfl, rfl⟩
  clear hmeta
  go_wp2_with fail
  refine (ints_none none 0 _ _).mono ?_
  rintro e w1 ⟨rfl, rfl⟩
  go_wp2_with fail
  refine (files_none none 0 _ _).mono ?_
  rintro e w1 ⟨rfl, rfl⟩
  go_wp2
  go_ret
  exact ⟨rfl, ((Below.refl _ _).alloc (Nat.le_refl _) _).alloc (by simp) _⟩

set_option maxRecDepth 100000 in
set_option maxHeartbeats 2000000 in
theorem eput_bare (A : Option Addr) (N c0 : Nat) (b : List UInt8) (g f c a l : Nat) (w : World) (hg : g ≤ 1073741824) (hb : bigs [f, c, a, l] = false) (hN : N ≤ 400000000) (hNc : N ≤ c0) (hc : c0 ≤ maxLen) (hr : Row w.heap.size w A N 1 (bts b))
    (h64 : f < 18446744073709551616 ∧ c < 18446744073709551616 ∧ a < 18446744073709551616 ∧ l < 18446744073709551616) :
    Calls Tryz.prog 43 #[.slice A N c0, edV g f c a l] w fun e w' => ∃ A' K c', e = .returned (.tuple #[.slice A' K c', .int .i64 0]) ∧
      w'.ownsRow w.heap.size 5 1 (.slice A' K c') K (bts (b ++ (Ed.rec_ ⟨[], [], g, f, c, a, l⟩))) ∧ K ≤ c' ∧ c' ≤ maxLen ∧ Below w.heap.size w w' := by
  have hmay := fun W => may_bare g f c a l W hg hb
  unfold edV at *
  have hgw : IntKind.u64.wrap (g : Int) = (g : Int) := by rw [IntKind.wrap_u64]; omega
  go_enter Tryz.func43, Tryz.ntmps43
  go_wp2_with fail
  refine (hmay _).mono ?_
  rintro e w1 ⟨rfl, hb1⟩
  clear hmay
  have hbw := later_ ((Below.refl w.heap.size w).alloc (Nat.le_refl _) _) hb1
  have hbox : w1.heap[w.heap.size]? = some (.cells #[.slice none 0 0, .slice none 0 0, .int .i64 (g : Int), .int .u64 (f : Int), .int .u64 (c : Int), .int .u64 (a : Int), .int .u64 (l : Int)] 39) := by
    rw [hb1.block _ (by simp)]
    exact heap_alloc_new _ _
  clear hb1
  have d0 : w1.cell? ⟨w.heap.size, 0, none⟩ = some (.slice none 0 0) := by rw [cell_of_row _ _ _ _ _ _ hbox]; rfl
  have d1 : w1.cell? ⟨w.heap.size, 1, none⟩ = some (.slice none 0 0) := by rw [cell_of_row _ _ _ _ _ _ hbox]; rfl
  have d2 : w1.cell? ⟨w.heap.size, 2, none⟩ = some (.int .i64 (g : Int)) := by rw [cell_of_row _ _ _ _ _ _ hbox]; rfl
  have d3 : w1.cell? ⟨w.heap.size, 3, none⟩ = some (.int .u64 (f : Int)) := by rw [cell_of_row _ _ _ _ _ _ hbox]; rfl
  have d4 : w1.cell? ⟨w.heap.size, 4, none⟩ = some (.int .u64 (c : Int)) := by rw [cell_of_row _ _ _ _ _ _ hbox]; rfl
  have d5 : w1.cell? ⟨w.heap.size, 5, none⟩ = some (.int .u64 (a : Int)) := by rw [cell_of_row _ _ _ _ _ _ hbox]; rfl
  have d6 : w1.cell? ⟨w.heap.size, 6, none⟩ = some (.int .u64 (l : Int)) := by rw [cell_of_row _ _ _ _ _ _ hbox]; rfl
  have hlt : w.heap.size < w1.heap.size := (Array.getElem?_eq_some_iff.1 hbox).1
  clear hbox
  go_wp2
  go_loopw [6, 20] (fun s x wr => s = .slice none 0 0 ∧ x = .int .i64 0 ∧ wr = w1) (fun _ _ _ => 0)
  case atStart => exact ⟨rfl, rfl, rfl⟩
  case round =>
    obtain ⟨rfl, rfl, rfl⟩ := hrel
    have HB := Lib.hid hb
    clear hb
    have hd1 : ∀ w2, Below wr.heap.size wr.drew w2 → w2.cell? ⟨w.heap.size, 1, none⟩ = some (.slice none 0 0) := fun w2 h => (h.cell (p := ⟨w.heap.size, 1, none⟩) hlt).trans d1
    have HD1 := Lib.hid hd1
    have hw0 : IntKind.u64.wrap 0 = 0 := by decide
    clear hd1
    go_upto_region 9 with (fail)
    go_cut [9] (fun s wx => ∃ A2 M2 c2, s = .slice A2 M2 c2 ∧ wx.ownsRow w.heap.size 5 1 (.slice A2 M2 c2) M2 (bts (Pn.list [] ++ Pn.put 0)) ∧ M2 ≤ c2 ∧ c2 ≤ maxLen ∧ Below wr.heap.size wr wx)
    case first =>
      go_region_with (first
        | (go_at_call 73; refine (list_any none 0 0 [] none 0 0 [] _ (by omega) (by omega) Row.nil_ Row.nil_ (by simp)).mono ?_; rintro e w2 ⟨A2, M2, c2, rfl, ho2, hM2, hc2, hb2⟩; have q1 := HD1 w2 hb2)
        | (go_at_call 69; refine (put_any _ _ _ ([] ++ Pn.list []) 0 (by decide) _ (by have h1 := ho2.1; rw [bts_length, show ([] ++ Pn.list [] : List UInt8).length = 1 from by decide] at h1; omega) (Row.own ho2)).mono ?_; rintro e w3 ⟨A3, c3, rfl, ho3, hc3, hm3, hb3⟩))
      all_goals
        go_wp2_with fail
        go_meet
        exact ⟨_, _, _, rfl, own_base ho3 (Nat.le_trans hbw.size hb2.size : w.heap.size ≤ w2.heap.size), hc3, hm3, ((Below.refl wr.heap.size wr).drew.trans hb2).trans (hb3.mono hb2.size)⟩
    case rest =>
      obtain ⟨A2, M2, c2, rfl, ho2, hM2, hc2, hb2⟩ := hcut
      have hML : M2 = 2 := by
        have h1 := ho2.1
        rw [bts_length, show (Pn.list [] ++ Pn.put 0).length = 2 from by decide] at h1
        omega
      subst hML
      replace d1 := (hb2.cell (p := ⟨w.heap.size, 1, none⟩) hlt).trans d1
      replace d2 := (hb2.cell (p := ⟨w.heap.size, 2, none⟩) hlt).trans d2
      replace d3 := (hb2.cell (p := ⟨w.heap.size, 3, none⟩) hlt).trans d3
      replace d4 := (hb2.cell (p := ⟨w.heap.size, 4, none⟩) hlt).trans d4
      replace d5 := (hb2.cell (p := ⟨w.heap.size, 5, none⟩) hlt).trans d5
      replace d6 := (hb2.cell (p := ⟨w.heap.size, 6, none⟩) hlt).trans d6
      have hbx := later_ hbw hb2
      go_wp2
      go_loopw [9, 40] (fun s x wr2 => s = .slice A2 2 c2 ∧ x = .int .i64 0 ∧ wr2 = wc) (fun _ _ _ => 0)
      case atStart => exact ⟨rfl, rfl, rfl⟩
      case round =>
        obtain ⟨rfl, rfl, rfl⟩ := hrel
        go_wp2
        have hb5 := hbx.alloc hbx.size (.cells #[.int .u64 (g : Int), .int .u64 (f : Int), .int .u64 (c : Int), .int .u64 (a : Int), .int .u64 (l : Int)] 29)
        have hrow := u64_row wr 29 #[.int .u64 (g : Int), .int .u64 (f : Int), .int .u64 (c : Int), .int .u64 (a : Int), .int .u64 (l : Int)] [g, f, c, a, l] 5 rfl rfl
        have ho5 := ho2.alloc (.cells #[.int .u64 (g : Int), .int .u64 (f : Int), .int .u64 (c : Int), .int .u64 (a : Int), .int .u64 (l : Int)] 29)
        clear d0 d1 d2 d3 d4 d5 d6 HD1 hb2 hbw hbx ho2 hw0
        change Code.wp _ _ _ _ (wr.alloc (.cells #[.int .u64 (g : Int), .int .u64 (f : Int), .int .u64 (c : Int), .int .u64 (a : Int), .int .u64 (l : Int)] 29))
        generalize wr.alloc (.cells #[.int .u64 (g : Int), .int .u64 (f : Int), .int .u64 (c : Int), .int .u64 (a : Int), .int .u64 (l : Int)] 29) = V at *
        generalize wr.heap.size = hp at *
        have hns : ∀ n ∈ [g, f, c, a, l], n < 18446744073709551616 := by
          intro n hn
          simp at hn
          omega
        have hfin : Pn.list [] ++ Pn.put 0 ++ [g, f, c, a, l].flatMap Pn.put = Ed.bytes ⟨[], [], g, f, c, a, l⟩ := by simp [Ed.bytes]
        have hbl := Ed.bytes_len ⟨[], [], g, f, c, a, l⟩ (by
          have hb' : bigs [f, c, a, l] = false := HB
          simp [bigs] at hb'
          simp [Ed.may, four4]
          omega)
        have hnl : [g, f, c, a, l].length = 5 := rfl
        have HN := Lib.hid hns
        have HF := Lib.hid hfin
        have HL := Lib.hid hbl
        have HNL := Lib.hid hnl
        generalize hnsd : [g, f, c, a, l] = ns at *
        clear hns hfin hbl hnl hgw HB h64 hg
        have HD := Lib.hid hnsd
        clear hnsd
        go_loopw [9, 67] (fun s x wr3 => ∃ (k : Nat) (A' : Option Addr) (M c' : Nat), k ≤ 5 ∧ s = .slice A' M c' ∧ x = .int .i64 (k : Int) ∧ M ≤ 2 + 10 * k ∧ wr3.ownsRow w.heap.size 5 1 (.slice A' M c') M (bts (Pn.list [] ++ Pn.put 0 ++ (ns.take k).flatMap Pn.put)) ∧ M ≤ c' ∧ c' ≤ maxLen ∧ Below V.heap.size V wr3) (fun _ x _ => 5 - (intOf x).toNat)
        case atStart => exact ⟨0, A2, 2, c2, by omega, rfl, rfl, by omega, by simpa using ho5, hM2, hc2, Below.refl _ _⟩
        case round =>
          obtain ⟨k, A', M, c', hk, rfl, rfl, hM, hown, hMc, hcm, hbV⟩ := hrel
          by_cases hlt2 : k < 5
          · obtain ⟨aa, hl, he, hab, hc⟩ := (hrow.below hbV).un hlt2
            injection he with he
            subst he
            have hns : ∀ n ∈ ns, n < 18446744073709551616 := HN
            have hxl := hns ns[k] (List.getElem_mem hl)
            have htk : ns.take (k + 1) = ns.take k ++ [ns[k]] := (List.take_append_getElem hl).symm
            generalize ns[k] = x at *
            have HT := Lib.hid htk
            clear htk hns
            rw [base_add] at hc
            go_wp2_with fail
            refine (put_any A' M c' _ x hxl wr (by omega) (Row.own hown)).mono ?_
            rintro e w2 ⟨A3, c3, rfl, ho3, hc3, hm3, hb3⟩
            have hpl := (Pn.put_len x).2
            have ho3' := own_base ho3 (Nat.le_trans hb5.size hbV.size)
            have HPL := Lib.hid hpl
            clear hpl ho3
            go_wp2
            go_roundw
            case rel =>
              refine ⟨k + 1, A3, M + (Pn.put x).length, c3, by omega, rfl, by go_num, by have h : (Pn.put x).length ≤ 10 := HPL; omega, ?_, hc3, hm3, later_ hbV hb3⟩
              have ht : ns.take (k + 1) = ns.take k ++ [x] := HT
              rw [ht]
              simpa [List.append_assoc] using ho3'
            case measure => simp [intOf]; omega
          · obtain rfl : k = 5 := by omega
            have hfin : Pn.list [] ++ Pn.put 0 ++ (ns.take 5).flatMap Pn.put = Ed.bytes ⟨[], [], g, f, c, a, l⟩ := by
              have h1 : ns.length = 5 := HNL
              have h2 : Pn.list [] ++ Pn.put 0 ++ ns.flatMap Pn.put = Ed.bytes ⟨[], [], g, f, c, a, l⟩ := HF
              rw [List.take_of_length_le (by omega)]
              exact h2
            rw [hfin] at hown
            have hbw := hb5.trans (hbV.mono hb5.size)
            clear hfin hrow ho5 hbV hb5
            have hq := Row.own hown
            clear hown
            go_wp2_with fail
            refine (fput_any A N c0 b 6 A' M c' _ wr (by omega) hNc hc ((hr.below hbw).up hbw.size) (by decide) (by decide) (by omega) hMc hcm hq).mono ?_
            rintro e w2 ⟨A3, K, c3, rfl, ho3, hc3, hm3, hb3⟩
            have ho3' := own_base ho3 hbw.size
            have hbz := later_ hbw hb3
            clear ho3 hb3
            go_wp2
            exact bodyPost_ret (v := .tuple #[.slice A3 K c3, .int .i64 0]) (by simp [results, go_sem]) rfl ⟨A3, K, c3, rfl, ho3', hc3, hm3, hbz⟩
end Go.Proofs.YthepokgkfaocmaaGreatDoor

/-
  The walks of edit.Ok, man.own, edit.Whole and edit.Apply, for Views and changes that speak of no files.
-/
namespace Go.Proofs.YthepokgkfaocmaaGreatDoor
open Go.RowKit

/-- A View of no files, as a value. -/
def vwV (g f c a l : Int) : Value := .agg #[.int .i64 g, .slice none 0 0, .int .u64 f, .int .u64 c, .int .u64 a, .int .u64 l]

theorem isnum_any (n : Int) (w : World) (h1 : 1 ≤ n) (h2 : n ≤ 1073741824) : Calls Tryz.prog 61 #[.int .i64 n] w fun e w' => e = .returned (.bool true) ∧ w = w' := by
  go_enter Tryz.func61, Tryz.ntmps61
  go_wp2
  go_ret
  exact ⟨rfl, rfl⟩
theorem clip_none (w : World) : Calls Tryz.prog 77 #[.slice none 0 0] w fun e w' => e = .returned (.slice none 0 0) ∧ w = w' := by
  go_enter Tryz.func77, Tryz.ntmps77
  go_wp2
  go_ret
  exact ⟨rfl, rfl⟩

set_option maxRecDepth 100000 in
set_option maxHeartbeats 1000000 in
theorem ok_bare (g : Int) (f c a l : Nat) (w : World) (h1 : 1 ≤ g) (h2 : g ≤ 1073741824) (hb : bigs [f, c, a, l] = false) : Calls Tryz.prog 38 #[vwV g f c a l] w fun e w' => e = .returned (.bool true) ∧ Below w.heap.size w w' := by
  unfold vwV
  have HB := Lib.hid hb
  clear hb
  go_enter Tryz.func38, Tryz.ntmps38
  go_wp2_with fail
  refine (isnum_any g _ h1 h2).mono ?_
  rintro e w1 ⟨rfl, rfl⟩
  go_wp2_with fail
  have hrow := u64_row (w.alloc (.cells #[.int .i64 g, .slice none 0 0, .int .u64 (f : Int), .int .u64 (c : Int), .int .u64 (a : Int), .int .u64 (l : Int)] 31)) 29 #[.int .u64 (f : Int), .int .u64 (c : Int), .int .u64 (a : Int), .int .u64 (l : Int)] [f, c, a, l] 4 rfl rfl
  have hmeta := meta_any _ 4 4 [f, c, a, l] _ (by omega) hrow
  rw [show bigs [f, c, a, l] = false from HB] at hmeta
  simp only [World.size_alloc, Bool.not_false] at hmeta
  clear hrow
  refine hmeta.mono ?_
  rintro e w1 ⟨rfl, rfl⟩
  clear hmeta
  go_wp2
  go_loop [31] (fun i => i = .int .i64 0) (fun _ => 0)
  case atStart => rfl
  case round =>
    obtain rfl := hrel
    go_wp2
    go_ret
    exact ⟨rfl, ((Below.refl _ _).alloc (Nat.le_refl _) _).alloc (by simp) _⟩

set_option maxRecDepth 100000 in
theorem own_bare (g f c a l : Int) (w : World) : Calls Tryz.prog 39 #[vwV g f c a l] w fun e w' => e = .returned (vwV g f c a l) ∧ Below w.heap.size w w' := by
  unfold vwV
  go_enter Tryz.func39, Tryz.ntmps39
  go_wp2
  exact bodyPost_ret (v := .agg #[.int .i64 g, .slice none 0 0, .int .u64 f, .int .u64 c, .int .u64 a, .int .u64 l]) (by simp [results, go_sem]) rfl ⟨rfl, ((Below.refl _ _).alloc (Nat.le_refl _) _).alloc (by simp) _⟩
set_option maxRecDepth 100000 in
theorem whole_bare (g f c a l : Int) (w : World) : Calls Tryz.prog 66 #[vwV g f c a l] w fun e w' => e = .returned (edV g f c a l) ∧ Below w.heap.size w w' := by
  unfold vwV edV
  go_enter Tryz.func66, Tryz.ntmps66
  go_wp2_with fail
  change Code.wp _ _ _ _ (World.alloc (World.alloc w _) _)
  have hb := ((Below.refl w.heap.size w).alloc (Nat.le_refl _) (.cells #[.int .i64 g, .slice none 0 0, .int .u64 f, .int .u64 c, .int .u64 a, .int .u64 l] 31)).alloc (by simp) (.cells #[.slice none 0 0, .slice none 0 0, .int .i64 0, .int .u64 0, .int .u64 0, .int .u64 0, .int .u64 0] 39)
  have hbox : ((w.alloc (.cells #[.int .i64 g, .slice none 0 0, .int .u64 f, .int .u64 c, .int .u64 a, .int .u64 l] 31)).alloc (.cells #[.slice none 0 0, .slice none 0 0, .int .i64 0, .int .u64 0, .int .u64 0, .int .u64 0, .int .u64 0] 39)).heap[w.heap.size]? = some (.cells #[.int .i64 g, .slice none 0 0, .int .u64 f, .int .u64 c, .int .u64 a, .int .u64 l] 31) := by
    rw [Below.heap_alloc _ _ _ (by simp)]
    exact heap_alloc_new _ _
  have hout : ((w.alloc (.cells #[.int .i64 g, .slice none 0 0, .int .u64 f, .int .u64 c, .int .u64 a, .int .u64 l] 31)).alloc (.cells #[.slice none 0 0, .slice none 0 0, .int .i64 0, .int .u64 0, .int .u64 0, .int .u64 0, .int .u64 0] 39)).heap[w.heap.size + 1]? = some (.cells #[.slice none 0 0, .slice none 0 0, .int .i64 0, .int .u64 0, .int .u64 0, .int .u64 0, .int .u64 0] 39) := by
    have h := heap_alloc_new (w.alloc (.cells #[.int .i64 g, .slice none 0 0, .int .u64 f, .int .u64 c, .int .u64 a, .int .u64 l] 31)) (.cells #[.slice none 0 0, .slice none 0 0, .int .i64 0, .int .u64 0, .int .u64 0, .int .u64 0, .int .u64 0] 39)
    simpa using h
  generalize (World.alloc (World.alloc w (.cells #[.int .i64 g, .slice none 0 0, .int .u64 f, .int .u64 c, .int .u64 a, .int .u64 l] 31)) (.cells #[.slice none 0 0, .slice none 0 0, .int .i64 0, .int .u64 0, .int .u64 0, .int .u64 0, .int .u64 0] 39)) = V at *
  have d0 : V.cell? ⟨w.heap.size, 0, none⟩ = some (.int .i64 g) := by rw [cell_of_row _ _ _ _ _ _ hbox]; rfl
  have d1 : V.cell? ⟨w.heap.size, 1, none⟩ = some (.slice none 0 0) := by rw [cell_of_row _ _ _ _ _ _ hbox]; rfl
  have d2 : V.cell? ⟨w.heap.size, 2, none⟩ = some (.int .u64 f) := by rw [cell_of_row _ _ _ _ _ _ hbox]; rfl
  have d3 : V.cell? ⟨w.heap.size, 3, none⟩ = some (.int .u64 c) := by rw [cell_of_row _ _ _ _ _ _ hbox]; rfl
  have d4 : V.cell? ⟨w.heap.size, 4, none⟩ = some (.int .u64 a) := by rw [cell_of_row _ _ _ _ _ _ hbox]; rfl
  have d5 : V.cell? ⟨w.heap.size, 5, none⟩ = some (.int .u64 l) := by rw [cell_of_row _ _ _ _ _ _ hbox]; rfl
  have q0 : V.cell? ⟨w.heap.size + 1, 0, none⟩ = some (.slice none 0 0) := by rw [cell_of_row _ _ _ _ _ _ hout]; rfl
  have z0 : V.frozen? ⟨w.heap.size + 1, 0, none⟩ = false := by rw [frozen_of_row _ _ _ _ _ hout]
  have q1 : V.cell? ⟨w.heap.size + 1, 1, none⟩ = some (.slice none 0 0) := by rw [cell_of_row _ _ _ _ _ _ hout]; rfl
  have z1 : V.frozen? ⟨w.heap.size + 1, 1, none⟩ = false := by rw [frozen_of_row _ _ _ _ _ hout]
  have q2 : V.cell? ⟨w.heap.size + 1, 2, none⟩ = some (.int .i64 0) := by rw [cell_of_row _ _ _ _ _ _ hout]; rfl
  have z2 : V.frozen? ⟨w.heap.size + 1, 2, none⟩ = false := by rw [frozen_of_row _ _ _ _ _ hout]
  have q3 : V.cell? ⟨w.heap.size + 1, 3, none⟩ = some (.int .u64 0) := by rw [cell_of_row _ _ _ _ _ _ hout]; rfl
  have z3 : V.frozen? ⟨w.heap.size + 1, 3, none⟩ = false := by rw [frozen_of_row _ _ _ _ _ hout]
  have q4 : V.cell? ⟨w.heap.size + 1, 4, none⟩ = some (.int .u64 0) := by rw [cell_of_row _ _ _ _ _ _ hout]; rfl
  have z4 : V.frozen? ⟨w.heap.size + 1, 4, none⟩ = false := by rw [frozen_of_row _ _ _ _ _ hout]
  have q5 : V.cell? ⟨w.heap.size + 1, 5, none⟩ = some (.int .u64 0) := by rw [cell_of_row _ _ _ _ _ _ hout]; rfl
  have z5 : V.frozen? ⟨w.heap.size + 1, 5, none⟩ = false := by rw [frozen_of_row _ _ _ _ _ hout]
  have q6 : V.cell? ⟨w.heap.size + 1, 6, none⟩ = some (.int .u64 0) := by rw [cell_of_row _ _ _ _ _ _ hout]; rfl
  have z6 : V.frozen? ⟨w.heap.size + 1, 6, none⟩ = false := by rw [frozen_of_row _ _ _ _ _ hout]
  clear hbox hout
  go_still_tail 14, (by kernel_rfl)
  change wpList _ _ _ _ _ (World.drew V)
  go_wp2
  refine bodyPost_ret (v := .agg #[.slice none 0 0, .slice none 0 0, .int .i64 g, .int .u64 f, .int .u64 c, .int .u64 a, .int .u64 l]) (by simp [results, go_sem, *]) rfl ⟨rfl, ?_⟩
  exact below_drew (((((((hb.setCell (by simp) _).setCell (by simp) _).setCell (by simp) _).setCell (by simp) _).setCell (by simp) _).setCell (by simp) _).setCell (by simp) _)
end Go.Proofs.YthepokgkfaocmaaGreatDoor
