/-
  The walk of the law LevelOver.
-/
import Derived.Test.YtfbollkafcdfhaaLevelH
import Derived.Deep.DeepCutAuto
import Derived.Deep.CutBlock
namespace Go.Proofs.Ytfbollkafcdfhaa
open Go.RowKit

theorem info27_ : (Try.prog.info? 27).map (fun i => (i.zero, i.size, i.bytes)) = some (some (.agg #[.int .i64 0, .int .i64 0, .slice none 0 0, .slice none 0 0, .int .i64 0]), 5, 72) := by kernel_rfl
theorem cs_one (hs : List Hv) : ∀ u ∈ hs.flatMap Hv.cs, u.oneCell' = true := by
  intro u hu
  obtain ⟨x, _, hx⟩ := List.mem_flatMap.1 hu
  simp only [Hv.cs, List.mem_cons, List.not_mem_nil, or_false] at hx
  rcases hx with rfl | rfl | rfl | rfl | rfl <;> rfl
/-- A row of files that the call owns. -/
def OwnsH (base : Nat) (hs : List Hv) (w : World) (v : Value) : Prop := w.ownsRow base 27 5 v hs.length (hs.flatMap Hv.cs)
theorem OwnsH.hrow {base c : Nat} {A : Option Addr} {hs : List Hv} {w : World} (h : OwnsH base hs w (.slice A hs.length c)) : HRow w.heap.size w A hs.length hs := ⟨rfl, Row.own h⟩
theorem base_at (b k : Nat) : ((⟨b, 0, none⟩ : Addr).add k) = ⟨b, k, none⟩ := by
  unfold Addr.add
  split <;> simp_all
/-- What LevelOver laid so far: of each level below k all, of level k the first j. -/
def Laid (N : Nat → Nat) (e k j : Nat) (hs : List Hv) : Prop :=
  (∀ lv : Nat, cntL (lv : Int) hs = if lv < k then N lv else if lv = k then j else 0) ∧ (∀ lv : Nat, itmL (lv : Int) hs = cntL (lv : Int) hs * e)
theorem Laid.step {N : Nat → Nat} {e k j : Nat} {hs : List Hv} (h : Laid N e k j hs) {x : Hv} (hl : x.hd.level = (k : Int)) (he : x.hd.len = (e : Int)) (h2 : e < 1024) : Laid N e k (j + 1) (hs ++ [x]) := by
  have ha : x.hd.amt = e := by unfold Hd.amt; rw [he]; omega
  constructor
  · intro lv
    rw [cntL_snoc, h.1 lv, hl]
    by_cases h1 : lv = k
    · subst h1; simp
    · rw [if_neg (show ¬ (k : Int) = (lv : Int) by omega)]
      simp [h1]
  · intro lv
    rw [itmL_snoc, cntL_snoc, h.2 lv, hl, ha]
    by_cases h1 : (k : Int) = (lv : Int)
    · rw [if_pos h1, if_pos h1, Nat.add_mul, Nat.one_mul]
    · rw [if_neg h1, if_neg h1]; rfl
theorem Laid.next {N : Nat → Nat} {e k : Nat} {hs : List Hv} (h : Laid N e k (N k) hs) : Laid N e (k + 1) 0 hs := by
  refine ⟨fun lv => ?_, h.2⟩
  rw [h.1 lv]
  by_cases h1 : lv < k
  · rw [if_pos h1, if_pos (by omega)]
  · rw [if_neg h1]
    by_cases h2 : lv = k
    · subst h2; simp
    · rw [if_neg h2, if_neg (by omega)]; split <;> rfl
def newH (w : World) (k j e : Nat) : Hv := ⟨⟨10 * (k : Int) + (j : Int) + 1, (k : Int), [], [], (e : Int)⟩, some ⟨w.heap.size, 0, none⟩, 1, 1, some ⟨w.heap.size + 1, 0, none⟩, 1, 1⟩
def wantL (a b c e : Nat) : List Int := (([] ++ if 4 ≤ a then [0] else []) ++ if 200 < b * e then [1] else []) ++ if 2000 < c * e then [2] else []
theorem laid_overs {N : Nat → Nat} {e : Nat} {hs : List Hv} (h : Laid N e 4 0 hs) : overs hs 3 = wantL (N 0) (N 1) (N 2) e := by
  have c0 := h.1 0
  have c1 := h.1 1
  have c2 := h.1 2
  have i1 := h.2 1
  have i2 := h.2 2
  rw [if_pos (by omega)] at c0 c1 c2
  have o0 : overB hs ((0 : Nat) : Int) = decide (4 ≤ N 0) := by
    have : cntL 0 hs = N 0 := c0
    unfold overB; simp [this]
  have o1 : overB hs ((1 : Nat) : Int) = decide (200 < N 1 * e) := by
    have : itmL 1 hs = N 1 * e := by rw [← c1]; exact i1
    unfold overB; simp [this]
  have o2 : overB hs ((2 : Nat) : Int) = decide (2000 < N 2 * e) := by
    have : itmL 2 hs = N 2 * e := by rw [← c2]; exact i2
    unfold overB; simp [this]
  rw [overs_succ, overs_succ, overs_succ, o0, o1, o2]
  unfold wantL
  simp
  rfl

set_option maxRecDepth 100000 in
set_option maxHeartbeats 2000000 in
theorem levelOver_walk (a b c d each : Int) (w : World) :
    Calls Try.prog 4 #[.int .i64 a, .int .i64 b, .int .i64 c, .int .i64 d, .int .i64 each] w fun e w' => e = .returned (.bool true) ∧ Below w.heap.size w w' := by
  obtain ⟨i0, hi0, hz0, hz1, hz2⟩ := info_parts info3_
  obtain ⟨j0, hj0, hj1, hj2, hj3⟩ := info_parts info27_
  obtain ⟨na, hna, hna1⟩ := and_mask a 3 (by omega)
  obtain ⟨nb, hnb, hnb1⟩ := and_mask b 3 (by omega)
  obtain ⟨nc, hnc, hnc1⟩ := and_mask c 3 (by omega)
  obtain ⟨nd, hnd, hnd1⟩ := and_mask d 3 (by omega)
  obtain ⟨ne, hne, hne1⟩ := and_mask each 10 (by omega)
  have hna' : bits .and .i64 a 7 = (na : Int) := hna
  have hnb' : bits .and .i64 b 7 = (nb : Int) := hnb
  have hnc' : bits .and .i64 c 7 = (nc : Int) := hnc
  have hnd' : bits .and .i64 d 7 = (nd : Int) := hnd
  have hne' : bits .and .i64 each 1023 = (ne : Int) := hne
  clear hna hnb hnc hnd hne
  go_enter Try.func4, Try.ntmps4
  go_wp2_with fail
  have hW : Below w.heap.size w (w.alloc (.cells #[.int .i64 (na : Int), .int .i64 (nb : Int), .int .i64 (nc : Int), .int .i64 (nd : Int)] 3)) := (Below.refl _ _).alloc (Nat.le_refl _) _
  have hW1 : w.heap.size < (w.alloc (.cells #[.int .i64 (na : Int), .int .i64 (nb : Int), .int .i64 (nc : Int), .int .i64 (nd : Int)] 3)).heap.size := by simp
  have hc0 : (w.alloc (.cells #[.int .i64 (na : Int), .int .i64 (nb : Int), .int .i64 (nc : Int), .int .i64 (nd : Int)] 3)).cell? ⟨w.heap.size, 0, none⟩ = some (.int .i64 (na : Int)) := by rw [World.cell?_alloc_at _ _ _ _ rfl]; rfl
  have hc1 : (w.alloc (.cells #[.int .i64 (na : Int), .int .i64 (nb : Int), .int .i64 (nc : Int), .int .i64 (nd : Int)] 3)).cell? ⟨w.heap.size, 1, none⟩ = some (.int .i64 (nb : Int)) := by rw [World.cell?_alloc_at _ _ _ _ rfl]; rfl
  have hc2 : (w.alloc (.cells #[.int .i64 (na : Int), .int .i64 (nb : Int), .int .i64 (nc : Int), .int .i64 (nd : Int)] 3)).cell? ⟨w.heap.size, 2, none⟩ = some (.int .i64 (nc : Int)) := by rw [World.cell?_alloc_at _ _ _ _ rfl]; rfl
  have hc3 : (w.alloc (.cells #[.int .i64 (na : Int), .int .i64 (nb : Int), .int .i64 (nc : Int), .int .i64 (nd : Int)] 3)).cell? ⟨w.heap.size, 3, none⟩ = some (.int .i64 (nd : Int)) := by rw [World.cell?_alloc_at _ _ _ _ rfl]; rfl
  generalize w.alloc (.cells #[.int .i64 (na : Int), .int .i64 (nb : Int), .int .i64 (nc : Int), .int .i64 (nd : Int)] 3) = W at *
  have hN : ∃ N : Nat → Nat, N 0 = na ∧ N 1 = nb ∧ N 2 = nc ∧ N 3 = nd := ⟨fun k => if k = 0 then na else if k = 1 then nb else if k = 2 then nc else nd, rfl, rfl, rfl, rfl⟩
  obtain ⟨N, e0, e1, e2, e3⟩ := hN
  rw [← e0] at hc0
  rw [← e1] at hc1
  rw [← e2] at hc2
  rw [← e3] at hc3
  have hcN : ∀ k, k < 4 → N k < 8 ∧ W.cell? ⟨w.heap.size, k, none⟩ = some (.int .i64 (N k : Int)) := by
    intro k hk
    rcases (by omega : k = 0 ∨ k = 1 ∨ k = 2 ∨ k = 3) with rfl | rfl | rfl | rfl
    · exact ⟨by omega, hc0⟩
    · exact ⟨by omega, hc1⟩
    · exact ⟨by omega, hc2⟩
    · exact ⟨by omega, hc3⟩
  have HC := Lib.hid hcN
  have E0 := Lib.hid e0
  have E1 := Lib.hid e1
  have E2 := Lib.hid e2
  clear hcN e0 e1 e2 e3 hc0 hc1 hc2 hc3 hna' hnb' hnc' hnd' hne'
  go_loopw [12, 13] (fun v i wr => ∃ (k : Nat) (hs : List Hv), k ≤ 4 ∧ i = .int .i64 (k : Int) ∧ hs.length ≤ 7 * k ∧ Laid N ne k 0 hs ∧ OwnsH W.heap.size hs wr v ∧ Below W.heap.size W wr) (fun _ i _ => 4 - (intOf i).toNat)
  case atStart => exact ⟨0, [], Nat.zero_le _, rfl, Nat.zero_le _, ⟨fun lv => by simp [cntL], fun lv => by simp [cntL, itmL]⟩, World.ownsRow_nil W W.heap.size 27 5, Below.refl _ _⟩
  case round =>
    obtain ⟨k, hs, hk, rfl, hle, hlaid, ho, hb⟩ := hrel
    by_cases hlt : k < 4
    · have hlt' : (k : Int) < 4 := by omega
      obtain ⟨hN8, hcell0⟩ := HC.out k hlt
      go_wp2_with fail
      go_loopw [12, 14] (fun v i wr => ∃ (j : Nat) (hs : List Hv), j ≤ N k ∧ i = .int .i64 (j : Int) ∧ hs.length ≤ 7 * k + j ∧ Laid N ne k j hs ∧ OwnsH W.heap.size hs wr v ∧ Below W.heap.size W wr) (fun _ i _ => N k - (intOf i).toNat)
      case atStart => exact ⟨0, hs, Nat.zero_le _, rfl, hle, hlaid, ho, hb⟩
      case round =>
        clear hle hlaid ho hb hs
        obtain ⟨j, hs, hj, rfl, hle, hlaid, ho, hb⟩ := hrel
        have hcell := (hb.cell (p := ⟨w.heap.size, k, none⟩) hW1).trans hcell0
        have hcell' : (wr.cell? ((⟨w.heap.size, 0, none⟩ : Addr).add k)) = some (.int .i64 (N k : Int)) := by rw [base_at]; exact hcell
        obtain ⟨A1, c1, rfl, hlc, hcm, -⟩ := own_form ho
        by_cases hjl : j < N k
        · go_wp2_with (at_builtin; refine stop_in ?_)
          have hlen5 := hb.size
          refine stop_out (wpList_app rfl (.tmp 39) (.tmp 54) _ rfl W.heap.size 27 j0 _ 5 72 Try.underlying22 hj0 hj1 hj2 hj3 rfl (by omega) W (((hb.alloc hb.size _).alloc (by simp; omega) _).alloc (by simp; omega) _) (by simp; omega) _ _ _ rfl (((ho.alloc _).alloc _).alloc _)
            (wr.heap.size + 1 + 1 + 1) _ 1 1 ([newH wr k j ne].flatMap Hv.cs) rfl (by have := Row.new (n := 1) (size := 5) ((wr.alloc (.cells #[.int .u8 (j : Int)] 5)).alloc (.cells #[.int .u8 (j : Int)] 5)) (newH wr k j ne).cs.toArray 27 rfl; simpa [newH, Hv.cs] using this) (cs_one _) _ _ rfl rfl (by unfold maxLen; omega) (by omega) ?_)
          intro A3 c3 w3 ho3 hb3 _ hc3 hm3
          clear hcell hcell' ho hb
          go_wp2_with fail
          go_roundw
          case rel => exact ⟨j + 1, hs ++ [newH wr k j ne], hjl, by go_num, by rw [List.length_append]; simp; omega, hlaid.step rfl rfl (by omega), by unfold OwnsH; rw [List.length_append, List.flatMap_append]; exact ho3, hb3⟩
          case measure => simp [intOf]; omega
        · obtain rfl : j = N k := by omega
          go_wp2_with fail
          go_roundw
          case rel => exact ⟨k + 1, hs, hlt, by go_num, by omega, hlaid.next, ho, hb⟩
          case measure => simp [intOf]; omega
    · obtain rfl : k = 4 := by omega
      have hov := laid_overs hlaid
      have HOV := Lib.hid hov
      clear hov hlaid
      obtain ⟨A1, c1, rfl, hlc, hcm, -⟩ := own_form ho
      have hrow := ho.hrow
      have hd0 := (hb.cell (p := ⟨w.heap.size, 0, none⟩) hW1).trans (HC.out 0 (by omega)).2
      have hd1 := (hb.cell (p := ⟨w.heap.size, 1, none⟩) hW1).trans (HC.out 1 (by omega)).2
      have hd2 := (hb.cell (p := ⟨w.heap.size, 2, none⟩) hW1).trans (HC.out 2 (by omega)).2
      have n0 := (HC.out 0 (by omega)).1
      have n1 := (HC.out 1 (by omega)).1
      have n2 := (HC.out 2 (by omega)).1
      have m1 : N 1 * ne ≤ 7 * 1023 := Nat.mul_le_mul (by omega) (by omega)
      have m2 : N 2 * ne ≤ 7 * 1023 := Nat.mul_le_mul (by omega) (by omega)
      have hWw := later_ hW (hb.mono (Nat.le_refl _))
      clear ho hb hW1 HC E0 E1 E2 hna1 hnb1 hnc1 hnd1 hW
      obtain ⟨Wf, rfl⟩ : ∃ Wf : World, Wf = wr := ⟨_, rfl⟩
      have HCC := Lib.hid (fun (ww : World) (hb : Below Wf.heap.size Wf ww) => (⟨cell_keep hd0 hb, cell_keep hd1 hb, cell_keep hd2 hb⟩ : ww.cell? ⟨w.heap.size, 0, none⟩ = some (.int .i64 (N 0 : Int)) ∧ ww.cell? ⟨w.heap.size, 1, none⟩ = some (.int .i64 (N 1 : Int)) ∧ ww.cell? ⟨w.heap.size, 2, none⟩ = some (.int .i64 (N 2 : Int))))
      have MM1 := Lib.hid (show ((N 1 : Int) * (ne : Int)) = ((N 1 * ne : Nat) : Int) by simp)
      have MM2 := Lib.hid (show ((N 2 : Int) * (ne : Int)) = ((N 2 * ne : Nat) : Int) by simp)
      have p1 : (0 : Int) ≤ (N 1 : Int) * (ne : Int) := by rw [MM1.out]; omega
      have p1' : (N 1 : Int) * (ne : Int) ≤ 7161 := by rw [MM1.out]; omega
      have p2 : (0 : Int) ≤ (N 2 : Int) * (ne : Int) := by rw [MM2.out]; omega
      have p2' : (N 2 : Int) * (ne : Int) ≤ 7161 := by rw [MM2.out]; omega
      clear hd1 hd2 m1 m2
      have hbw : Below Wf.heap.size Wf Wf := Below.refl _ _
      have how : Wf.ownsRow Wf.heap.size 3 1 (.slice none 0 0) ([] : List Int).length (ints []) := World.ownsRow_nil Wf Wf.heap.size 3 1
      have hlL : ([] : List Int).length ≤ 0 := by simp
      go_upto_if 59 with (fail)
      go_cut [15] (fun v wx => ∃ L : List Int, Hid (L = [] ++ if 4 ≤ N 0 then [0] else []) ∧ L.length ≤ 1 ∧ Owns Wf.heap.size L wx v ∧ Below Wf.heap.size Wf wx)
      case first =>
        by_cases hif : 4 ≤ N 0
        · have hi' : (4 : Int) ≤ (N 0 : Int) := by omega
          go_wp2_with (at_builtin; refine stop_in ?_)
          refine stop_out (wpList_app rfl (.tmp 60) (.tmp 61) _ rfl Wf.heap.size 3 i0 _ 1 8 Try.underlying28 hi0 hz0 hz1 hz2 rfl (by omega) Wf (hbw.alloc hbw.size _) (by have := hbw.size; simp <;> omega) _ _ _ rfl (World.ownsRow.alloc how _) _ _ 1 1 (ints [0]) rfl (Row.new _ #[.int .i64 0] 3 rfl) (ints_one _) _ _ rfl rfl (by unfold maxLen; omega) (by omega) ?_)
          intro A3 c3 w3 ho3 hb3 _ hc3 hm3
          clear how hbw
          go_wp2_with fail
          go_meet
          case rel => exact ⟨[] ++ [0], Lib.hid (by rw [if_pos hif]), by simp <;> omega, by unfold Owns; rw [ints_append, List.length_append]; exact ho3, hb3⟩
        · have hi' : ¬ (4 : Int) ≤ (N 0 : Int) := by omega
          go_wp2_with fail
          go_meet
          case rel => exact ⟨[], Lib.hid (by rw [if_neg hif, List.append_nil]), by omega, how, hbw⟩
      case rest =>
        clear hbw how hlL
        obtain ⟨L0, HL0, hlL, how, hbw⟩ := hcut
        obtain ⟨A5, c5, rfl, -, -, -⟩ := own_form how
        obtain ⟨hd0, hd1, hd2⟩ := HCC.out _ hbw
        go_upto_if 68 with (fail)
        go_cut [15] (fun v wx => ∃ L : List Int, Hid (L = L0 ++ if 200 < N 1 * ne then [1] else []) ∧ L.length ≤ 2 ∧ Owns Wf.heap.size L wx v ∧ Below Wf.heap.size Wf wx)
        case first =>
          by_cases hif : 200 < N 1 * ne
          · have hi' : (200 : Int) < (N 1 : Int) * (ne : Int) := by rw [MM1.out]; omega
            go_wp2_with (at_builtin; refine stop_in ?_)
            refine stop_out (wpList_app rfl (.tmp 69) (.tmp 70) _ rfl Wf.heap.size 3 i0 _ 1 8 Try.underlying28 hi0 hz0 hz1 hz2 rfl (by omega) Wf (hbw.alloc hbw.size _) (by have := hbw.size; simp <;> omega) _ _ _ rfl (World.ownsRow.alloc how _) _ _ 1 1 (ints [1]) rfl (Row.new _ #[.int .i64 1] 3 rfl) (ints_one _) _ _ rfl rfl (by unfold maxLen; omega) (by omega) ?_)
            intro A3 c3 w3 ho3 hb3 _ hc3 hm3
            clear how hbw
            go_wp2_with fail
            go_meet
            case rel => exact ⟨L0 ++ [1], Lib.hid (by rw [if_pos hif]), by simp <;> omega, by unfold Owns; rw [ints_append, List.length_append]; exact ho3, hb3⟩
          · have hi' : ¬ (200 : Int) < (N 1 : Int) * (ne : Int) := by rw [MM1.out]; omega
            go_wp2_with fail
            go_meet
            case rel => exact ⟨L0, Lib.hid (by rw [if_neg hif, List.append_nil]), by omega, how, hbw⟩
        case rest =>
          clear hbw how hlL
          obtain ⟨L1, HL1, hlL, how, hbw⟩ := hcut
          obtain ⟨A6, c6, rfl, -, -, -⟩ := own_form how
          obtain ⟨hd0, hd1, hd2⟩ := HCC.out _ hbw
          go_upto_if 77 with (fail)
          go_cut [15] (fun v wx => ∃ L : List Int, Hid (L = L1 ++ if 2000 < N 2 * ne then [2] else []) ∧ L.length ≤ 3 ∧ Owns Wf.heap.size L wx v ∧ Below Wf.heap.size Wf wx)
          case first =>
            by_cases hif : 2000 < N 2 * ne
            · have hi' : (2000 : Int) < (N 2 : Int) * (ne : Int) := by rw [MM2.out]; omega
              go_wp2_with (at_builtin; refine stop_in ?_)
              refine stop_out (wpList_app rfl (.tmp 78) (.tmp 79) _ rfl Wf.heap.size 3 i0 _ 1 8 Try.underlying28 hi0 hz0 hz1 hz2 rfl (by omega) Wf (hbw.alloc hbw.size _) (by have := hbw.size; simp <;> omega) _ _ _ rfl (World.ownsRow.alloc how _) _ _ 1 1 (ints [2]) rfl (Row.new _ #[.int .i64 2] 3 rfl) (ints_one _) _ _ rfl rfl (by unfold maxLen; omega) (by omega) ?_)
              intro A3 c3 w3 ho3 hb3 _ hc3 hm3
              clear how hbw
              go_wp2_with fail
              go_meet
              case rel => exact ⟨L1 ++ [2], Lib.hid (by rw [if_pos hif]), by simp <;> omega, by unfold Owns; rw [ints_append, List.length_append]; exact ho3, hb3⟩
            · have hi' : ¬ (2000 : Int) < (N 2 : Int) * (ne : Int) := by rw [MM2.out]; omega
              go_wp2_with fail
              go_meet
              case rel => exact ⟨L1, Lib.hid (by rw [if_neg hif, List.append_nil]), by omega, how, hbw⟩
          case rest =>
            clear hbw how hlL
            obtain ⟨L2, HL2, hlL, how, hbw⟩ := hcut
            obtain ⟨A7, c7, rfl, h7a, h7b, -⟩ := own_form how
            have hwant : L2 = overs hs 3 := by
              rw [HL2.out, HL1.out, HL0.out, HOV.out]
              rfl
            subst hwant
            clear HL0 HL1 HL2 HOV hd0 hd1 hd2 HCC MM1 MM2 p1 p1' p2 p2'
            have hrow1 := (hrow.below hbw).up hbw.size
            go_wp2_with fail
            refine (overs_any hs A1 _ c1 (by omega) _ hrow1).mono ?_
            rintro e w1 ⟨⟨v, rfl, B1, d1, rfl, -, -, hg⟩, hb1⟩
            have how1 := own_below how hb1
            have hbw1 := later_ hbw hb1
            go_wp2_with fail
            refine (same_any (overs hs 3) (overs hs 3) _ _ _ _ _ _ (by omega) _ hg (Row.own how1)).mono ?_
            rintro e w2 ⟨rfl, hb2⟩
            rw [show (overs hs 3 == overs hs 3) = true from by simp]
            have how2 := own_below how1 hb2
            have hbw2 := later_ hbw1 hb2
            cases hO : overs hs 3 with
            | nil =>
              rw [hO] at hlL h7a how how1 how2 hg
              have HO := Lib.hid hO
              clear hO
              go_wp2_with fail
              refine (done_any hs A1 _ c1 (by omega) _ ((hrow.below hbw2).up hbw2.size)).mono ?_
              rw [HO.out]
              rintro e w3 ⟨rfl, hb3⟩
              go_wp2_with fail
              refine (awake_any _).mono ?_
              rintro e w4 ⟨rfl, hb4⟩
              go_wp2
              go_ret
              exact ⟨rfl, later_ hWw (later_ (later_ hbw2 hb3) hb4)⟩
            | cons o rest =>
              rw [hO] at hlL h7a how how1 how2 hg
              have HO := Lib.hid hO
              clear hO
              have t0 : ((rest.length : Int) + 1 == 0) = false := beq_eq_false_iff_ne.2 (by omega)
              go_wp2_with fail
              refine (done_any hs A1 _ c1 (by omega) _ ((hrow.below hbw2).up hbw2.size)).mono ?_
              rw [HO.out]
              rintro e w3 ⟨rfl, hb3⟩
              go_wp2_with fail
              refine (awake_any _).mono ?_
              rintro e w4 ⟨rfl, hb4⟩
              go_wp2
              go_ret
              exact ⟨rfl, later_ hWw (later_ (later_ hbw2 hb3) hb4)⟩
end Go.Proofs.Ytfbollkafcdfhaa
