/-
  The walk of level.After.
-/
import Derived.Test.YtfbollkafcdfhaaLevelI
namespace Go.Proofs.Ytfbollkafcdfhaa
open Go.RowKit

set_option maxHeartbeats 1000000 in
theorem index_any (l : List Int) (x : Int) (A : Option Addr) (n c : Nat) (hn : n ≤ 1000) (w : World) (h : Row w.heap.size w A n 1 (ints l)) :
    Calls Try.prog 30 #[.slice A n c, .int .i64 x] w fun e w' => (∃ r : Int, e = .returned (.int .i64 r) ∧ (0 ≤ r ↔ x ∈ l)) ∧ w = w' := by
  have HL := Lib.hid h.intlen
  go_enter Try.func30, Try.ntmps30
  go_wp2
  go_loop [8] (fun i => ∃ k : Nat, k ≤ n ∧ i = .int .i64 (k : Int) ∧ Hid (∀ j, j < k → l[j]? ≠ some x)) (fun i => n - (intOf i).toNat)
  case atStart => exact ⟨0, Nat.zero_le _, rfl, Lib.hid (fun j hj => absurd hj (Nat.not_lt_zero _))⟩
  case round =>
    obtain ⟨k, hk, rfl, HK⟩ := hrel
    by_cases hlt : k < n
    · obtain ⟨a, hl, rfl, hba, hc⟩ := h.int hlt
      have F := Lib.hid (List.getElem?_eq_getElem hl)
      generalize l[k] = y at *
      by_cases hxy : x = y
      · subst hxy
        go_wp2
        go_ret
        refine ⟨⟨(k : Int), rfl, ⟨fun _ => List.mem_of_getElem? F.out, fun _ => by omega⟩⟩, rfl⟩
      · have hne : (x == y) = false := beq_eq_false_iff_ne.2 hxy
        have HX := Lib.hid hxy
        clear hxy
        go_wp2
        go_round
        case rel =>
          refine ⟨k + 1, hlt, by go_num, Lib.hid fun j hj => ?_⟩
          rcases Nat.lt_or_ge j k with h1 | h1
          · exact HK.out j h1
          · obtain rfl : j = k := by omega
            rw [F.out]
            intro e
            injection e with e
            exact HX.out e.symm
        case measure => simp [intOf]; omega
    · obtain rfl : k = n := by omega
      go_wp2
      go_ret
      refine ⟨⟨-1, rfl, ⟨fun h => by omega, fun hm => ?_⟩⟩, rfl⟩
      obtain ⟨j, hj, e⟩ := List.mem_iff_getElem.1 hm
      exact absurd (by rw [List.getElem?_eq_getElem hj, e]) (HK.out j (by rw [HL.out] at hj; exact hj))

set_option maxHeartbeats 1000000 in
theorem contains_any (l : List Int) (x : Int) (A : Option Addr) (n c : Nat) (hn : n ≤ 1000) (w : World) (h : Row w.heap.size w A n 1 (ints l)) :
    Calls Try.prog 26 #[.slice A n c, .int .i64 x] w fun e w' => e = .returned (.bool (decide (x ∈ l))) ∧ w = w' := by
  by_cases hx : x ∈ l
  · have HX := Lib.hid hx
    clear hx
    go_enter Try.func26, Try.ntmps26
    go_wp2_with fail
    refine (index_any l x _ _ _ hn _ h).mono ?_
    rintro e w1 ⟨⟨r, rfl, hr⟩, rfl⟩
    have h0 : 0 ≤ r := hr.2 HX.out
    clear hr
    go_wp2
    go_ret
    exact ⟨ret_eq (by rw [decide_eq_true HX.out]; rfl), rfl⟩
  · have HX := Lib.hid hx
    clear hx
    go_enter Try.func26, Try.ntmps26
    go_wp2_with fail
    refine (index_any l x _ _ _ hn _ h).mono ?_
    rintro e w1 ⟨⟨r, rfl, hr⟩, rfl⟩
    have h0 : decide (0 ≤ r) = false := decide_eq_false fun h => HX.out (hr.1 h)
    clear hr
    go_wp2
    go_ret
    exact ⟨ret_eq (by rw [decide_eq_false HX.out]; rfl), rfl⟩

def Hv.at_ (h : Hv) (lto : Int) : Hv := { h with hd := { h.hd with level := lto } }
def kept (hs : List Hv) (inn : List Int) : List Hv := hs.filter fun h => !decide (h.hd.num ∈ inn)
def afterL (hs : List Hv) (inn : List Int) (lto : Int) (made : List Hv) : List Hv := kept hs inn ++ made.map (·.at_ lto)
theorem kept_snoc (hs : List Hv) (inn : List Int) (x : Hv) : kept (hs ++ [x]) inn = kept hs inn ++ if x.hd.num ∈ inn then [] else [x] := by
  unfold kept
  rw [List.filter_append]
  by_cases h : x.hd.num ∈ inn <;> simp [h]
theorem kept_le (hs : List Hv) (inn : List Int) : (kept hs inn).length ≤ hs.length := List.length_filter_le _ _
theorem OwnsH.snoc {base : Nat} {hs : List Hv} {w : World} {A : Option Addr} {c : Nat} {x : Hv} (h : w.ownsRow base 27 5 (.slice A (hs.length + 1) c) (hs.length + 1) (hs.flatMap Hv.cs ++ x.cs)) : OwnsH base (hs ++ [x]) w (.slice A (hs.length + 1) c) := by
  unfold OwnsH
  rw [List.length_append, List.flatMap_append]
  simpa using h

theorem clip_any (B : Option Addr) (n c : Nat) (hn : n ≤ c) (_hc : c ≤ maxLen) (w : World) :
    Calls Try.prog 27 #[.slice B n c] w fun e w' => e = .returned (.slice B n n) ∧ w = w' := by
  unfold maxLen at _hc
  have h0 : (0 : Int) ≤ (n : Int) := by omega
  have h1 : (n : Int) ≤ (c : Int) := by omega
  cases B with
  | none =>
    go_enter Try.func27, Try.ntmps27
    go_wp2
    go_ret
    exact ⟨rfl, rfl⟩
  | some a =>
    go_enter Try.func27, Try.ntmps27
    go_wp2
    go_ret
    exact ⟨rfl, rfl⟩
theorem row_box2 (w : World) (x : Hv) (o : Obj) : Row (w.heap.size + 1 + 1) ((w.alloc o).alloc (boxOf x)) (some ⟨w.heap.size + 1, 0, none⟩) 1 5 x.cs := by
  have := Row.new (n := 1) (size := 5) (w.alloc o) x.cs.toArray 27 rfl
  change Row _ ((w.alloc o).alloc (.cells x.cs.toArray 27)) _ _ _ _
  simpa using this

set_option maxRecDepth 100000 in
set_option maxHeartbeats 2000000 in
theorem after_any (hs made : List Hv) (inn : List Int) (lto : Int) (A M I : Option Addr) (n c m d p q : Nat) (hn : n ≤ 100) (hm : m ≤ 100) (hp : p ≤ 1000) (w : World)
    (h : HRow w.heap.size w A n hs) (h2 : HRow w.heap.size w M m made) (h3 : Row w.heap.size w I p 1 (ints inn)) :
    Calls Try.prog 19 #[.slice A n c, .slice I p q, .int .i64 lto, .slice M m d] w fun e w' => (∃ B, e = .returned (.slice B (afterL hs inn lto made).length (afterL hs inn lto made).length) ∧ HRow w'.heap.size w' B (afterL hs inn lto made).length (afterL hs inn lto made)) ∧ Below w.heap.size w w' := by
  obtain ⟨j0, hj0, hj1, hj2, hj3⟩ := info_parts info27_
  have HL := Lib.hid h.len
  have HL2 := Lib.hid h2.len
  go_enter Try.func19, Try.ntmps19
  go_wp2_with fail
  go_loopw [9, 16] (fun v i wr => ∃ k : Nat, k ≤ n ∧ i = .int .i64 (k : Int) ∧ OwnsH w.heap.size (kept (hs.take k) inn) wr v ∧ Below w.heap.size w wr) (fun _ i _ => n - (intOf i).toNat)
  case atStart => exact ⟨0, Nat.zero_le _, rfl, World.ownsRow_nil w w.heap.size 27 5, Below.refl _ _⟩
  case round =>
    obtain ⟨k, hk, rfl, ho, hb⟩ := hrel
    obtain ⟨B1, c1, rfl, hlc, hcm, -⟩ := own_form ho
    have hle := kept_le (hs.take k) inn
    have hle2 := List.length_take_le k hs
    by_cases hlt : k < n
    · obtain ⟨a, hl, rfl, hbk, d0, d1, d2, d3, d4⟩ := (h.below hb).at_ hlt
      have e1 := kept_snoc (hs.take k) inn hs[k]
      rw [← take_next hl] at e1
      have E1 := Lib.hid e1
      clear e1
      generalize hs[k] = x at *
      have h3b := (h3.below hb).up hb.size
      have hV : Below w.heap.size w (wr.alloc (boxOf x)) := hb.alloc hb.size _
      have h3c : Row (wr.alloc (boxOf x)).heap.size (wr.alloc (boxOf x)) I p 1 (ints inn) := (h3.below hV).up hV.size
      generalize kept (hs.take k) inn = K at *
      by_cases hin : x.hd.num ∈ inn
      · have HIN := Lib.hid hin
        clear hin
        go_wp2_with fail
        refine (contains_any inn x.hd.num _ _ _ hp _ h3c).mono ?_
        rintro e w1 ⟨rfl, rfl⟩
        rw [decide_eq_true HIN.out]
        go_wp2_with fail
        go_roundw
        case rel => exact ⟨k + 1, hlt, by go_num, by rw [E1.out, if_pos HIN.out, List.append_nil]; exact ho.alloc _, hV⟩
        case measure => simp [intOf]; omega
      · have HIN := Lib.hid hin
        clear hin
        go_wp2_with fail
        refine (contains_any inn x.hd.num _ _ _ hp _ h3c).mono ?_
        rintro e w1 ⟨rfl, rfl⟩
        rw [decide_eq_false HIN.out]
        go_wp2_with (at_builtin; refine stop_in ?_)
        refine stop_out (wpList_app rfl (.tmp 25) (.tmp 27) _ rfl w.heap.size 27 j0 _ 5 72 Try.underlying22 hj0 hj1 hj2 hj3 rfl (by omega) w (hV.alloc hV.size _) (by have := hV.size; simp at this ⊢; omega) _ _ _ rfl ((ho.alloc _).alloc _)
          _ _ 1 1 (x.cs) rfl (row_box2 wr x (boxOf x)) (by have := cs_one [x]; simpa using this) _ _ rfl rfl (by unfold maxLen; omega) (by omega) ?_)
        intro A3 c3 w3 ho3 hb3 _ hc3 hm3
        clear ho hb hV h3b h3c
        go_wp2_with fail
        go_roundw
        case rel => exact ⟨k + 1, hlt, by go_num, by rw [E1.out, if_neg HIN.out]; exact OwnsH.snoc ho3, hb3⟩
        case measure => simp [intOf]; omega
    · obtain rfl : k = n := by omega
      rw [List.take_of_length_le (by rw [HL.out]; omega)] at ho hlc ⊢
      have hK : (kept hs inn).length ≤ k := by have := kept_le hs inn; rw [HL.out] at this; exact this
      clear hle hle2
      have hO : wr.ownsRow w.heap.size 27 5 (.slice B1 (kept hs inn).length c1) (kept hs inn ++ (made.take 0).map (·.at_ lto)).length ((kept hs inn ++ (made.take 0).map (·.at_ lto)).flatMap Hv.cs) := by
        have h' : wr.ownsRow w.heap.size 27 5 (.slice B1 (kept hs inn).length c1) (kept hs inn).length ((kept hs inn).flatMap Hv.cs) := ho
        simpa using h'
      go_wp2_with fail
      go_loopw [9, 32] (fun v i wr => ∃ j : Nat, j ≤ m ∧ i = .int .i64 (j : Int) ∧ OwnsH w.heap.size (kept hs inn ++ (made.take j).map (·.at_ lto)) wr v ∧ Below w.heap.size w wr) (fun _ i _ => m - (intOf i).toNat)
      case atStart => exact ⟨0, Nat.zero_le _, rfl, hO, hb⟩
      case round =>
        clear ho hb hO
        obtain ⟨j, hj, rfl, ho, hb⟩ := hrel
        obtain ⟨B2, c2, rfl, hlc2, hcm2, -⟩ := own_form ho
        have hlen : (kept hs inn ++ (made.take j).map (·.at_ lto)).length ≤ k + j := by
          rw [List.length_append, List.length_map]
          have := List.length_take_le j made
          omega
        by_cases hlt : j < m
        · obtain ⟨a, hl, rfl, hbk, d0, d1, d2, d3, d4⟩ := (h2.below hb).at_ hlt
          have e1 := take_next hl
          have E1 := Lib.hid e1
          clear e1
          generalize hs_x : made[j] = x at *
          clear hs_x
          generalize hq : kept hs inn ++ (made.take j).map (·.at_ lto) = K at *
          have HQ := Lib.hid hq
          clear hq
          have hV : Below w.heap.size w (wr.alloc (boxOf (x.at_ lto))) := hb.alloc hb.size _
          go_wp2_with (at_builtin; refine stop_in ?_)
          refine stop_out (wpList_app rfl (.tmp 38) (.tmp 40) _ rfl w.heap.size 27 j0 _ 5 72 Try.underlying22 hj0 hj1 hj2 hj3 rfl (by omega) w (hV.alloc hV.size _) (by have := hV.size; simp at this ⊢; omega) _ _ _ rfl (World.ownsRow.alloc (w := wr.alloc (boxOf (x.at_ lto))) (ho.alloc _) _)
            _ _ 1 1 ((x.at_ lto).cs) rfl (row_box2 wr (x.at_ lto) (boxOf (x.at_ lto))) (by have := cs_one [x.at_ lto]; simpa using this) _ _ rfl rfl (by unfold maxLen; omega) (by omega) ?_)
          intro A3 c3 w3 ho3 hb3 _ hc3 hm3
          clear ho hb hV
          go_wp2_with fail
          go_roundw
          case rel => exact ⟨j + 1, hlt, by go_num, by rw [E1.out, List.map_append, ← List.append_assoc, HQ.out]; exact OwnsH.snoc ho3, hb3⟩
          case measure => simp [intOf]; omega
        · obtain rfl : j = m := by omega
          rw [List.take_of_length_le (by rw [HL2.out]; omega)] at ho hlc2 hlen ⊢
          have hq : kept hs inn ++ made.map (·.at_ lto) = afterL hs inn lto made := rfl
          rw [hq] at ho hlc2 hlen ⊢
          have hrow := ho.hrow
          clear ho hq
          generalize hG : afterL hs inn lto made = G at *
          have HG := Lib.hid hG
          clear hG
          have hz3 : (G.length : Int) ≤ (c2 : Int) := by omega
          go_wp2_with fail
          refine (clip_any _ _ _ hlc2 hcm2 _).mono ?_
          rintro e w1 ⟨rfl, rfl⟩
          go_wp2
          go_ret
          refine ⟨⟨B2, ?_, ?_⟩, hb⟩
          · rw [HG.out]; rfl
          · rw [HG.out]; exact hrow
end Go.Proofs.Ytfbollkafcdfhaa
