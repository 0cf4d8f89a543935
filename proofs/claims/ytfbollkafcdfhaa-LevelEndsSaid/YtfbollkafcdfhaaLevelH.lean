/-
  The walks of the laws' own helpers: Few, same.
-/
import Derived.Test.YtfbollkafcdfhaaLevelF
import Derived.IntWalk
namespace Go.Proofs.Ytfbollkafcdfhaa
open Go.RowKit

theorem Row.int {B n : Nat} {w : World} {A : Option Addr} {l : List Int} (h : Row B w A n 1 (ints l)) {k : Nat} (hk : k < n) : ∃ a, ∃ hl : k < l.length, A = some a ∧ a.block < B ∧ w.cell? (a.add k) = some (.int .i64 l[k]) := by
  obtain ⟨a, v, e, b, hv, hc⟩ := h.at1 hk
  have hl : k < l.length := by have := h.len; rw [ints_length] at this; omega
  unfold ints at hv
  rw [List.getElem?_map, List.getElem?_eq_getElem hl] at hv
  injection hv with hv
  exact ⟨a, hl, e, b, by rw [hc, ← hv]⟩
theorem Row.intlen {B n : Nat} {w : World} {A : Option Addr} {l : List Int} (h : Row B w A n 1 (ints l)) : l.length = n := by have := h.len; rw [ints_length] at this; omega

set_option maxHeartbeats 1000000 in
theorem same_any (l l' : List Int) (A A' : Option Addr) (n c n' c' : Nat) (hn : n ≤ 1000) (w : World) (h : Row w.heap.size w A n 1 (ints l)) (h' : Row w.heap.size w A' n' 1 (ints l')) :
    Calls Try.prog 14 #[.slice A n c, .slice A' n' c'] w fun e w' => e = .returned (.bool (l == l')) ∧ Below w.heap.size w w' := by
  have hl := h.intlen
  have hl' := h'.intlen
  by_cases hn' : n = n'
  · subst hn'
    have HL := Lib.hid hl
    have HL' := Lib.hid hl'
    clear hl hl'
    go_enter Try.func14, Try.ntmps14
    go_wp2
    go_loopw [5] (fun i wr => ∃ k : Nat, k ≤ n ∧ i = .int .i64 (k : Int) ∧ l.take k = l'.take k ∧ Below w.heap.size w wr) (fun i _ => n - (intOf i).toNat)
    case atStart => exact ⟨0, Nat.zero_le _, rfl, rfl, Below.refl _ _⟩
    case round =>
      obtain ⟨k, hk, rfl, he, hb⟩ := hrel
      have HE := Lib.hid he
      clear he
      by_cases hlt : k < n
      · obtain ⟨a, hla, rfl, hba, ca⟩ := (h.below hb).int hlt
        obtain ⟨a', hla', rfl, hba', ca'⟩ := (h'.below hb).int hlt
        have e1 := take_next hla
        have e2 := take_next hla'
        have E1 := Lib.hid e1
        have E2 := Lib.hid e2
        have f1 : l[k]? = some l[k] := List.getElem?_eq_getElem hla
        have f2 : l'[k]? = some l'[k] := List.getElem?_eq_getElem hla'
        have F1 := Lib.hid f1
        have F2 := Lib.hid f2
        clear e1 e2 f1 f2
        generalize l[k] = x at *
        generalize l'[k] = y at *
        by_cases hxy : x = y
        · subst hxy
          go_wp2
          go_quiet (fail)
          go_wp2
          go_roundw
          case rel => exact ⟨k + 1, hlt, by go_num, by rw [E1.out, E2.out, HE.out], below_drewN hb _⟩
          case measure => simp [intOf]; omega
        · have hne : (x != y) = true := by simpa using hxy
          have HX := Lib.hid hxy
          clear hxy
          go_wp2
          go_quiet (fail)
          go_wp2
          go_ret
          refine ⟨ret_eq ?_, below_drewN hb _⟩
          have : (l == l') = false := by
            rw [beq_eq_false_iff_ne]
            intro e
            subst e
            rw [F1.out] at F2
            have := F2.out
            simp at this
            exact HX.out this
          rw [this]; rfl
      · obtain rfl : k = n := by omega
        have hh := HE.out
        rw [List.take_of_length_le (by rw [HL.out]; omega), List.take_of_length_le (by rw [HL'.out]; omega)] at hh
        subst hh
        go_wp2
        go_ret
        exact ⟨ret_eq (by simp), hb⟩
  · have hne : ((n : Int) != (n' : Int)) = true := bne_iff_ne.2 (by omega)
    go_enter Try.func14, Try.ntmps14
    go_wp2
    go_ret
    refine ⟨ret_eq ?_, Below.refl _ _⟩
    have : (l == l') = false := by
      rw [beq_eq_false_iff_ne]
      intro e
      subst e
      omega
    rw [this]; rfl

def keyL (l : List Hv) : Nat := (l.map fun h => min h.fn 5000 + min h.ln 5000).sum
def few (hs : List Hv) : Bool := decide (hs.length ≤ 50) && decide (keyL (hs.take 51) ≤ 5000)
theorem keyL_snoc (l : List Hv) (x : Hv) : keyL (l ++ [x]) = keyL l + (min x.fn 5000 + min x.ln 5000) := by simp [keyL]
theorem keyL_le (l : List Hv) : keyL l ≤ l.length * 10000 := by
  unfold keyL
  have := sum_le_of 10000 (l.map fun h => min h.fn 5000 + min h.ln 5000) (fun x hx => by
    obtain ⟨y, _, rfl⟩ := List.mem_map.1 hx
    omega)
  rwa [List.length_map] at this

set_option maxHeartbeats 1000000 in
theorem few_any (hs : List Hv) (A : Option Addr) (n c : Nat) (hn : n ≤ 9223372036854775807) (w : World) (h : Helds w.heap.size w A n hs) :
    Calls Try.prog 9 #[.slice A n c] w fun e w' => e = .returned (.bool (few hs)) ∧ Below w.heap.size w w' := by
  have HL := Lib.hid h.len
  go_enter Try.func9, Try.ntmps9
  go_wp2
  go_loopw [3, 4] (fun x i wr => ∃ k : Nat, k ≤ n ∧ k ≤ 51 ∧ i = .int .i64 (k : Int) ∧ x = .int .i64 ((keyL (hs.take k) : Nat) : Int) ∧ Below w.heap.size w wr) (fun _ i _ => 51 - (intOf i).toNat)
  case atStart => exact ⟨0, Nat.zero_le _, by omega, rfl, rfl, Below.refl _ _⟩
  case round =>
    obtain ⟨k, hk, hk2, rfl, rfl, hb⟩ := hrel
    by_cases hlt : k < n
    · by_cases hlt2 : k ≤ 50
      · obtain ⟨a, hl, rfl, ⟨hbk, c0, c1, c2, c3, c4⟩, hok⟩ := (h.below hb).at_ hlt
        have e1 := keyL_snoc (hs.take k) hs[k]
        rw [← take_next hl] at e1
        have E1 := Lib.hid e1
        clear e1
        have b1 := Nat.le_trans (keyL_le (hs.take k)) (Nat.mul_le_mul_right _ (List.length_take_le _ _))
        generalize hs[k] = x at *
        generalize keyL (hs.take k) = X at *
        have hlt2' : (k : Int) ≤ 50 := by omega
        have g1 : (0 : Int) ≤ min (x.fn : Int) 5000 := by omega
        have g2 : min (x.fn : Int) 5000 ≤ 5000 := by omega
        have g3 : (0 : Int) ≤ min (x.ln : Int) 5000 := by omega
        have g4 : min (x.ln : Int) 5000 ≤ 5000 := by omega
        have s1 : IntKind.i64.wrap ((X : Int) + min (x.fn : Int) 5000) = (X : Int) + min (x.fn : Int) 5000 := IntWalk.i64_in _ (by omega)
        have s2 : IntKind.i64.wrap ((X : Int) + min (x.fn : Int) 5000 + min (x.ln : Int) 5000) = (X : Int) + min (x.fn : Int) 5000 + min (x.ln : Int) 5000 := IntWalk.i64_in _ (by omega)
        go_wp2
        go_quiet (fail)
        clear s1 s2
        go_wp2
        go_roundw
        case rel => exact ⟨k + 1, hlt, by omega, by go_num, by rw [E1.out]; congr 1; omega, below_drewN hb _⟩
        case measure => simp [intOf]; omega
      · have hlt2' : ¬ (k : Int) ≤ 50 := by omega
        have h50 : ¬ (n : Int) ≤ 50 := by omega
        have fin : false = few hs := by unfold few; rw [HL.out, show decide (n ≤ 50) = false from by simp; omega]; rfl
        have FIN := Lib.hid fin
        clear fin
        go_wp2
        go_ret
        exact ⟨ret_eq (by rw [← FIN.out]; rfl), hb⟩
    · obtain rfl : k = n := by omega
      by_cases h50 : k ≤ 50
      · have h50' : (k : Int) ≤ 50 := by omega
        have fin : decide (((keyL (hs.take k) : Nat) : Int) ≤ 5000) = few hs := by
          have e : hs.take k = hs.take 51 := by rw [List.take_of_length_le (by rw [HL.out]; omega), List.take_of_length_le (by rw [HL.out]; omega)]
          unfold few
          rw [HL.out, show decide (k ≤ 50) = true from by simpa using h50, e, Bool.true_and, Bool.eq_iff_iff, decide_eq_true_iff, decide_eq_true_iff]
          omega
        have FIN := Lib.hid fin
        clear fin
        generalize keyL (hs.take k) = X at *
        go_wp2
        go_ret
        exact ⟨ret_eq (by rw [← FIN.out]; first | rfl | simp), hb⟩
      · have h50' : ¬ (k : Int) ≤ 50 := by omega
        have fin : false = few hs := by unfold few; rw [HL.out, show decide (k ≤ 50) = false from by simpa using h50]; rfl
        have FIN := Lib.hid fin
        clear fin
        go_wp2
        go_ret
        exact ⟨ret_eq (by rw [← FIN.out]; rfl), hb⟩
end Go.Proofs.Ytfbollkafcdfhaa
