/-
  The walks of the document's answer: Touch, over, Over.
-/
import Derived.Test.YtfbollkafcdfhaaLevelH
namespace Go.Proofs.Ytfbollkafcdfhaa
open Go.RowKit

theorem conv_st {B n : Nat} {w : World} {A : Option Addr} {l : List UInt8} (h : Row B w A n 1 (bts l)) (c : Nat) : (convert 25 9 (.slice A n c)).run Try.prog w = .ok (.string ⟨l.toArray⟩) w :=
  conv_row _ _ 5 Try.underlying25 Try.underlying5 Try.underlying9 h c

theorem bl_cmp : ∀ x y : List UInt8, (Op.bytesLess x y || x == y) = decide (Lib.compareBytes x y ≤ 0)
  | [], [] => by decide
  | [], _ :: _ => by simp [Op.bytesLess, Lib.compareBytes]
  | _ :: _, [] => by simp [Op.bytesLess, Lib.compareBytes]
  | a :: xs, b :: ys => by
    have ih := bl_cmp xs ys
    unfold Op.bytesLess Lib.compareBytes
    by_cases h1 : a < b
    · simp [h1]
    · by_cases h2 : b < a
      · have hne : a ≠ b := by
          rintro rfl
          exact h1 h2
        simp [h1, h2, hne]
      · have he : a = b := by
          apply UInt8.toNat_inj.1
          rw [UInt8.lt_iff_toNat_lt] at h1 h2
          omega
        subst he
        simp at ih ⊢
        simp [ih]

set_option maxHeartbeats 1000000 in
theorem rtouch_any (a b : Hd) (A1 A2 B1 B2 : Option Addr) (n1 c1 n2 c2 m1 d1 m2 d2 : Nat) (w : World)
    (h1 : Row w.heap.size w A1 n1 1 (bts a.first)) (h2 : Row w.heap.size w A2 n2 1 (bts a.last)) (h3 : Row w.heap.size w B1 m1 1 (bts b.first)) (h4 : Row w.heap.size w B2 m2 1 (bts b.last)) :
    Calls Try.prog 18 #[.agg #[.int .i64 a.num, .int .i64 a.level, .slice A1 n1 c1, .slice A2 n2 c2, .int .i64 a.len], .agg #[.int .i64 b.num, .int .i64 b.level, .slice B1 m1 d1, .slice B2 m2 d2, .int .i64 b.len]] w fun e w' => e = .returned (.bool (a.touch b)) ∧ Below w.heap.size w w' := by
  go_enter Try.func18, Try.ntmps18
  by_cases ha : a.len = 0
  · go_wp2
    go_ret
    exact ⟨ret_eq (by simp [Hd.touch, ha]), ((Below.refl _ _).alloc (Nat.le_refl _) _).alloc (by simp) _⟩
  · by_cases hb : b.len = 0
    · go_wp2
      go_ret
      exact ⟨ret_eq (by simp [Hd.touch, hb]), ((Below.refl _ _).alloc (Nat.le_refl _) _).alloc (by simp) _⟩
    · have v1 := fun o o' : Obj => conv_st (((h1.alloc (Nat.le_refl _) o).alloc (by simp) o')) c1
      have v2 := fun o o' : Obj => conv_st (((h2.alloc (Nat.le_refl _) o).alloc (by simp) o')) c2
      have v3 := fun o o' : Obj => conv_st (((h3.alloc (Nat.le_refl _) o).alloc (by simp) o')) d1
      have v4 := fun o o' : Obj => conv_st (((h4.alloc (Nat.le_refl _) o).alloc (by simp) o')) d2
      have e1 := bl_cmp a.first b.last
      have e2 := bl_cmp b.first a.last
      have E1 := Lib.hid e1
      have E2 := Lib.hid e2
      clear e1 e2
      have fin : ∀ r : Bool, (a.len != 0 && b.len != 0 && (Op.bytesLess a.first b.last || a.first == b.last) && (Op.bytesLess b.first a.last || b.first == a.last)) = r → r = a.touch b := by
        rintro r rfl
        rw [E1.out, E2.out]
        rfl
      have FIN := Lib.hid fin
      clear fin
      go_wp2
      · go_ret
        refine ⟨ret_eq ?_, ((Below.refl _ _).alloc (Nat.le_refl _) _).alloc (by simp) _⟩
        rw [← FIN.out _ rfl]
        rfl
      · rename_i hx
        go_ret
        refine ⟨ret_eq ?_, ((Below.refl _ _).alloc (Nat.le_refl _) _).alloc (by simp) _⟩
        rw [← FIN.out false (by
          have : (Op.bytesLess a.first b.last || a.first == b.last) = false := by
            rw [Bool.eq_false_iff]
            intro hc
            exact hx (by simpa using hc)
          rw [this]; simp)]
        rfl

/-- What a file counts as, in the document's answer. -/
def itmR (lv : Int) (l : List Hv) : Nat := l.foldl (fun s h => if h.hd.level = lv then min (s + (min (max h.hd.len 0) 1000000).toNat) 1000000 else s) 0
theorem itmR_snoc (lv : Int) (l : List Hv) (x : Hv) : itmR lv (l ++ [x]) = if x.hd.level = lv then min (itmR lv l + (min (max x.hd.len 0) 1000000).toNat) 1000000 else itmR lv l := by
  unfold itmR
  rw [List.foldl_append]
  rfl
theorem snoc_ind {α : Type} {P : List α → Prop} (h0 : P []) (hs : ∀ l x, P l → P (l ++ [x])) (l : List α) : P l := by
  have h : ∀ r : List α, P r.reverse := by
    intro r
    induction r with
    | nil => simpa using h0
    | cons x r ih => rw [List.reverse_cons]; exact hs _ _ ih
  have := h l.reverse
  rwa [List.reverse_reverse] at this
theorem itmR_le (lv : Int) (l : List Hv) : itmR lv l ≤ 1000000 := by
  refine snoc_ind (P := fun l => itmR lv l ≤ 1000000) (by simp [itmR]) (fun l x ih => ?_) l
  show itmR lv (l ++ [x]) ≤ 1000000
  rw [itmR_snoc]
  split <;> omega
theorem itm_same (lv : Int) (l : List Hv) : min (itmL lv l) 2001 = min (itmR lv l) 2001 := by
  refine snoc_ind (P := fun l => min (itmL lv l) 2001 = min (itmR lv l) 2001) (by simp [itmR, itmL]) (fun l x ih => ?_) l
  show min (itmL lv (l ++ [x])) 2001 = min (itmR lv (l ++ [x])) 2001
  have ih' : min (itmL lv l) 2001 = min (itmR lv l) 2001 := ih
  rw [itmR_snoc, itmL_snoc]
  unfold Hd.amt
  split <;> omega

set_option maxHeartbeats 1000000 in
theorem rover_any (lv : Int) (hlv : 0 ≤ lv) (hlv2 : lv ≤ 2) (hs : List Hv) (A : Option Addr) (n c : Nat) (hn : n ≤ 1000) (w : World) (h : HRow w.heap.size w A n hs) :
    Calls Try.prog 25 #[.slice A n c, .int .i64 lv] w fun e w' => e = .returned (.bool (overB hs lv)) ∧ w = w' := by
  go_enter Try.func25, Try.ntmps25
  go_wp2
  go_loop [5, 6, 7] (fun x y i => ∃ k : Nat, k ≤ n ∧ x = .int .i64 ((cntL lv (hs.take k) : Nat) : Int) ∧ y = .int .i64 ((itmR lv (hs.take k) : Nat) : Int) ∧ i = .int .i64 (k : Int)) (fun _ _ i => n - (intOf i).toNat)
  case atStart => exact ⟨0, Nat.zero_le _, by simp [cntL], by simp [itmR], rfl⟩
  case round =>
    obtain ⟨k, hk, rfl, rfl, rfl⟩ := hrel
    by_cases hlt : k < n
    · obtain ⟨a, hl, rfl, hat⟩ := h.at_ hlt
      have e1 := cntL_snoc lv (hs.take k) hs[k]
      have e2 := itmR_snoc lv (hs.take k) hs[k]
      rw [← take_next hl] at e1 e2
      have b1 := Nat.le_trans (cntL_le lv (hs.take k)) (List.length_take_le _ _)
      have b2 := itmR_le lv (hs.take k)
      generalize hs[k] = x at *
      generalize itmR lv (hs.take k) = Y at *
      generalize cntL lv (hs.take k) = X at *
      obtain ⟨hbk, c0, c1, c2, c3, c4⟩ := hat
      by_cases hx : x.hd.level = lv
      · subst hx
        rw [if_pos rfl] at e1 e2
        have E1 := Lib.hid e1
        have E2 := Lib.hid e2
        clear e1 e2
        have b5 : 0 ≤ min (max x.hd.len 0) 1000000 := by omega
        have b6 : min (max x.hd.len 0) 1000000 ≤ 1000000 := by omega
        go_wp2_with fail
        go_round
        case rel => exact ⟨k + 1, hlt, by rw [E1.out]; rfl, by rw [E2.out]; congr 1; omega, by go_num⟩
        case measure => simp [intOf]; omega
      · have hx' : (x.hd.level == lv) = false := beq_eq_false_iff_ne.2 hx
        rw [if_neg hx] at e1 e2
        have E1 := Lib.hid e1
        have E2 := Lib.hid e2
        clear e1 e2
        go_wp2_with fail
        go_round
        case rel => exact ⟨k + 1, hlt, by rw [E1.out]; rfl, by rw [E2.out], by go_num⟩
        case measure => simp [intOf]; omega
    · have e : k = n := by omega
      subst e
      have hl := h.len
      rw [List.take_of_length_le (by omega)]
      have hsame := itm_same lv hs
      have fin : overB hs lv = if lv = 0 then decide (4 ≤ cntL 0 hs) else decide ((if lv = 1 then 200 else 2000) < itmR lv hs) := by
        unfold overB
        split
        · rfl
        · rw [Bool.eq_iff_iff, decide_eq_true_iff, decide_eq_true_iff]
          split <;> omega
      have FIN := Lib.hid fin
      clear fin hsame
      rcases (by omega : lv = 0 ∨ lv = 1 ∨ lv = 2) with rfl | rfl | rfl
      · generalize cntL 0 hs = X at *
        generalize itmR 0 hs = Y at *
        go_wp2
        go_ret
        exact ⟨ret_eq (by rw [FIN.out]; simp; omega), rfl⟩
      · generalize cntL 1 hs = X at *
        generalize itmR 1 hs = Y at *
        go_wp2
        go_ret
        exact ⟨ret_eq (by rw [FIN.out]; simp; omega), rfl⟩
      · generalize cntL 2 hs = X at *
        generalize itmR 2 hs = Y at *
        go_wp2
        go_ret
        exact ⟨ret_eq (by rw [FIN.out]; simp; omega), rfl⟩

set_option maxHeartbeats 1000000 in
theorem rovers_any (hs : List Hv) (A : Option Addr) (n c : Nat) (hn : n ≤ 1000) (w : World) (h : HRow w.heap.size w A n hs) :
    Calls Try.prog 17 #[.slice A n c] w fun e w' => (∃ v, e = .returned v ∧ Gives (overs hs 3) w' v) ∧ Below w.heap.size w w' := by
  obtain ⟨i0, hi0, hz0, hz1, hz2⟩ := info_parts info3_
  go_enter Try.func17, Try.ntmps17
  go_wp2
  go_loopw [3, 4] (fun v i wr => ∃ k : Nat, k ≤ 3 ∧ i = .int .i64 (k : Int) ∧ Owns w.heap.size (overs hs k) wr v ∧ Below w.heap.size w wr) (fun _ i _ => 3 - (intOf i).toNat)
  case atStart => exact ⟨0, Nat.zero_le _, rfl, World.ownsRow_nil w w.heap.size 3 1, Below.refl _ _⟩
  case round =>
    obtain ⟨k, hk, rfl, ho, hb⟩ := hrel
    obtain ⟨A1, c1, rfl, hlc, hcm, -⟩ := own_form ho
    by_cases hlt : k < 3
    · have hlt' : (k : Int) < 3 := by omega
      have e1 := overs_succ hs k
      have hle := overs_le hs k
      have hh := (h.below hb).up hb.size
      have E1 := Lib.hid e1
      clear e1
      cases hB : overB hs (k : Int)
      · have HB := Lib.hid hB
        clear hB
        go_wp2_with fail
        refine (rover_any (k : Int) (by omega) (by omega) hs A n c hn _ hh).mono ?_
        rintro e w1 ⟨rfl, rfl⟩
        rw [HB.out]
        go_wp2
        go_roundw
        case rel => exact ⟨k + 1, hlt, by go_num, by rw [E1.out, HB.out, if_neg (by decide), List.append_nil]; exact ho, hb⟩
        case measure => simp [intOf]; omega
      · have HB := Lib.hid hB
        clear hB
        go_wp2_with fail
        refine (rover_any (k : Int) (by omega) (by omega) hs A n c hn _ hh).mono ?_
        rintro e w1 ⟨rfl, rfl⟩
        rw [HB.out]
        go_wp2_with (at_builtin; refine stop_in ?_)
        refine stop_out (wpList_app rfl (.tmp 12) (.tmp 14) _ rfl w.heap.size 3 i0 _ 1 8 Try.underlying28 hi0 hz0 hz1 hz2 rfl (by omega) w (hb.alloc hb.size _) (by have := hb.size; simp; omega) _ _ _ rfl (ho.alloc _) _ _ 1 1 (ints [(k : Int)]) rfl (Row.new _ #[.int .i64 (k : Int)] 3 rfl) (ints_one _) _ _ rfl rfl (by unfold maxLen; omega) (by omega) ?_)
        intro A3 c3 w3 ho3 hb3 _ hc3 hm3
        go_wp2
        go_roundw
        case rel => exact ⟨k + 1, hlt, by go_num, by rw [E1.out, HB.out]; unfold Owns; rw [if_pos rfl, ints_append, List.length_append]; exact ho3, hb3⟩
        case measure => simp [intOf]; omega
    · obtain rfl : k = 3 := by omega
      go_wp2
      go_ret
      exact ⟨⟨_, rfl, ho.gives⟩, hb⟩
end Go.Proofs.Ytfbollkafcdfhaa
