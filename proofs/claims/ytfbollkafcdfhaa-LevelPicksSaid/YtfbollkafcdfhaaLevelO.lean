/-
  The walk of the law LevelPicks.
-/
import Derived.Test.YtfbollkafcdfhaaPlainPicks
import Derived.Test.YtfbollkafcdfhaaLevelK
import Derived.Test.YtfbollkafcdfhaaLevelG
import Derived.Deep.DeepCutAuto
import Derived.Deep.CutBlock
namespace Go.Proofs.Ytfbollkafcdfhaa
open Go.RowKit

theorem row_box (w : World) (x : Hv) : Row (w.heap.size + 1) (w.alloc (boxOf x)) (some ⟨w.heap.size, 0, none⟩) 1 5 x.cs := by
  have := Row.new (n := 1) (size := 5) w x.cs.toArray 27 rfl
  change Row _ (w.alloc (.cells x.cs.toArray 27)) _ _ _ _
  simpa using this

set_option linter.unusedSimpArgs false
set_option maxRecDepth 100000 in
set_option maxHeartbeats 8000000 in
theorem levelPicks_walk (A : Option Addr) (n c : Nat) (hs : List Hv) (w : World) (hn : n ≤ 9223372036854775807) (h : Helds w.heap.size w A n hs) :
    Calls Try.prog 3 #[.slice A n c] w fun e w' => e = .returned (.bool true) ∧ Below w.heap.size w w' := by
  obtain ⟨j0, hj0, hj1, hj2, hj3⟩ := info_parts info27_
  cases hf : few hs with
  | false =>
    have HF := Lib.hid hf
    clear hf
    go_enter Try.func3, Try.ntmps3
    go_wp2_with fail
    refine (few_any hs _ _ _ hn _ h).mono ?_
    rintro e w1 ⟨rfl, hb1⟩
    rw [HF.out]
    go_wp2_with fail
    refine (awake_any _).mono ?_
    rintro e w2 ⟨rfl, hb2⟩
    go_wp2
    go_ret
    exact ⟨rfl, later_ hb1 hb2⟩
  | true =>
    have hn50 := few_len hf
    rw [h.len] at hn50
    have HF := Lib.hid hf
    have HL := Lib.hid h.len
    clear hf
    go_enter Try.func3, Try.ntmps3
    go_wp2_with fail
    refine (few_any hs _ _ _ hn _ h).mono ?_
    rintro e w1 ⟨rfl, hb1⟩
    rw [HF.out]
    clear hn
    go_wp2_with fail
    go_loopw [3] (fun i wr => ∃ k : Nat, k ≤ n ∧ i = .int .i64 (k : Int) ∧ Hid (Diff hs k) ∧ Below w.heap.size w wr) (fun i _ => n - (intOf i).toNat)
    case atStart => exact ⟨0, Nat.zero_le _, rfl, Lib.hid (fun i j hi => absurd hi (Nat.not_lt_zero _)), hb1⟩
    case round =>
      clear hb1
      obtain ⟨k, hk, rfl, HD, hb⟩ := hrel
      by_cases hlt : k < n
      · obtain ⟨a, hl, rfl, ⟨hbk, d0, d1, d2, d3, d4⟩, hok⟩ := (h.below hb).at_ hlt
        have hxk : nm hs k = hs[k].hd.num := by unfold nm; rw [getD_lt hs hv0 hl]
        have HXK := Lib.hid hxk
        clear hxk
        generalize hs[k] = x at *
        rcases (by omega : x.hd.len < 0 ∨ (¬ x.hd.len < 0 ∧ 1000000 < x.hd.len) ∨ (¬ x.hd.len < 0 ∧ ¬ 1000000 < x.hd.len)) with h1 | ⟨h1, h2⟩ | ⟨h1, h2⟩
        · go_wp2_with fail
          refine (awake_any _).mono ?_
          rintro e w2 ⟨rfl, hb2⟩
          go_wp2
          go_ret
          exact ⟨rfl, later_ hb hb2⟩
        · go_wp2_with fail
          refine (awake_any _).mono ?_
          rintro e w2 ⟨rfl, hb2⟩
          go_wp2
          go_ret
          exact ⟨rfl, later_ hb hb2⟩
        · go_wp2_with fail
          go_loopw [4] (fun i wr => ∃ j : Nat, j ≤ k ∧ i = .int .i64 (j : Int) ∧ Hid (∀ j', j' < j → nm hs j' ≠ nm hs k) ∧ Below w.heap.size w wr) (fun i _ => k - (intOf i).toNat)
          case atStart => exact ⟨0, Nat.zero_le _, rfl, Lib.hid (fun i hi => absurd hi (Nat.not_lt_zero _)), hb⟩
          case round =>
            clear hb d0 d1 d2 d3 d4 hok
            obtain ⟨j, hj, rfl, HJ, hb⟩ := hrel
            by_cases hlt2 : j < k
            · obtain ⟨a_, hl_, ha_, ⟨hbk_, d0, d1, d2, d3, d4⟩, hok⟩ := (h.below hb).at_ hlt
              obtain rfl : a = a_ := by simpa using ha_
              obtain ⟨a_, hly, ha2_, ⟨hbky, e0, e1, e2, e3, e4⟩, hoky⟩ := (h.below hb).at_ (show j < n by omega)
              obtain rfl : a = a_ := by simpa using ha2_
              have hxk2 : nm hs k = hs[k].hd.num := by unfold nm; rw [getD_lt hs hv0 hl]
              rw [← hxk2] at d0
              have hyj : nm hs j = hs[j].hd.num := by unfold nm; rw [getD_lt hs hv0 hly]
              rw [← hyj] at e0
              have HXK' := Lib.hid hxk2
              clear hxk2 hyj
              have hj63 : (j : Int) < (n : Int) := by omega
              have hk63 : (k : Int) < (n : Int) := by omega
              by_cases heq : nm hs j = nm hs k
              · have hee : (nm hs j == nm hs k) = true := beq_iff_eq.2 heq
                clear heq
                go_wp2_with fail
                go_quiet (fail)
                go_wp2_with fail
                refine (awake_any _).mono ?_
                rintro e w2 ⟨rfl, hb2⟩
                go_wp2
                go_ret
                exact ⟨rfl, later_ (below_drewN hb _) hb2⟩
              · have hee : (nm hs j == nm hs k) = false := beq_eq_false_iff_ne.2 heq
                have HE := Lib.hid heq
                clear heq
                go_wp2_with fail
                go_quiet (fail)
                go_wp2_with fail
                go_roundw
                case rel =>
                  refine ⟨j + 1, by omega, by go_num, Lib.hid (fun j' hj' => ?_), below_drewN hb _⟩
                  rcases Nat.lt_or_ge j' j with h5 | h5
                  · exact HJ.out j' h5
                  · obtain rfl : j' = j := by omega
                    exact HE.out
                case measure => simp [intOf]; omega
            · obtain rfl : k = j := by omega
              go_wp2_with fail
              go_roundw
              case rel =>
                refine ⟨k + 1, hlt, by go_num, Lib.hid (fun i j' hi hj' => ?_), hb⟩
                rcases Nat.lt_or_ge i k with h5 | h5
                · exact HD.out i j' h5 hj'
                · obtain rfl : i = k := by omega
                  exact HJ.out j' hj'
              case measure => simp [intOf]; omega
      · obtain rfl : n = k := by omega
        clear hlt hk
        go_wp2_with fail
        refine (pick_any hs A n c (by omega) _ ((h.below hb).up hb.size)).mono ?_
        rintro e w2 ⟨hp, hb2⟩
        have hz := later_ hb hb2
        clear hb hb2
        cases ho : overs hs 3 with
        | nil =>
          have HO := Lib.hid ho
          unfold PickOf at hp
          rw [ho] at hp
          subst hp
          clear ho
          go_wp2_with fail
          refine (done_any hs A n c (by omega) _ ((h.below hz).up hz.size).hrow).mono ?_
          rw [HO.out]
          rintro e w3 ⟨rfl, hb3⟩
          go_wp2_with fail
          refine (awake_any _).mono ?_
          rintro e w4 ⟨rfl, hb4⟩
          go_wp2
          go_ret
          exact ⟨rfl, later_ (later_ hz hb3) hb4⟩
        | cons lv rest =>
          obtain ⟨hlv0, hlv2, hov⟩ := overs_mem ho
          have hF := first_lt hlv0 hlv2 hov
          unfold PickOf at hp
          rw [ho] at hp
          obtain ⟨v, rfl, A2, c2, rfl, hlc2, -, hg2⟩ := hp
          have hU0 : lv = 0 → 4 ≤ (ups hs lv (idx hs lv).length).length := by
            rintro rfl
            exact ups_zero hov
          have hU1 : 0 < lv → (ups hs lv (idx hs lv).length).length = 1 := fun h0 => ups_one h0 hF
          have hpl : (picks hs lv hs.length).length = (idx hs lv).length := by rw [picks_idx, List.length_map]
          have HPL := Lib.hid hpl
          have HDD : Hid (Diff hs hs.length) := by rw [HL.out]; exact HD
          have HU0 := Lib.hid hU0
          have HU1 := Lib.hid hU1
          obtain ⟨T, hT⟩ : ∃ T, T = lv + 1 := ⟨_, rfl⟩
          rw [← hT]
          have HT := Lib.hid hT
          have t1 : 1 ≤ T := by omega
          have t2 : T ≤ 3 := by omega
          clear ho hU0 hU1 hov hF hpl hT HD hlv0 hlv2
          have HW := (h.below hz).up hz.size
          generalize hPe : picks hs lv hs.length = P at *
          have HP := Lib.hid hPe
          have hple : P.length ≤ n := by
            have := picks_le hs lv hs.length
            rw [hPe, HL.out] at this
            exact this
          clear hPe
          obtain ⟨W, rfl⟩ : ∃ W : World, W = w2 := ⟨_, rfl⟩
          go_wp2_with fail
          go_loopw [8, 9, 10] (fun u v i wr => ∃ k : Nat, k ≤ P.length ∧ i = .int .i64 (k : Int) ∧ u = .int .i64 (((ups hs lv k).length : Nat) : Int) ∧ OwnsH W.heap.size (ups hs lv k) wr v ∧ Below W.heap.size W wr) (fun _ _ i _ => P.length - (intOf i).toNat)
          case atStart => exact ⟨0, Nat.zero_le _, rfl, rfl, World.ownsRow_nil W W.heap.size 27 5, Below.refl _ _⟩
          case round =>
            obtain ⟨k, hk, rfl, rfl, ho, hb⟩ := hrel
            obtain ⟨A9, c9, rfl, hlc9, hcm9, -⟩ := own_form ho
            by_cases hlt : k < P.length
            · have hki : k < (idx hs lv).length := by have := HPL.out; omega
              have hPk : P[k] = nm hs (idx hs lv)[k] := by
                have : P = (idx hs lv).map (nm hs) := by rw [← HP.out, picks_idx]
                subst this
                simp
              have hin := idx_lt (List.getElem_mem hki)
              have hpk := idx_pick (List.getElem_mem hki)
              have hus := ups_succ hki
              have hjne : ∀ j (hj : j < k), P[j]'(by omega) ≠ P[k] := by
                intro j hj
                have : P = (idx hs lv).map (nm hs) := by rw [← HP.out, picks_idx]
                subst this
                simp only [List.getElem_map]
                intro e
                exact idx_ne hj hki (HDD.out.inj (idx_lt (List.getElem_mem (by omega))) hin e)
              generalize (idx hs lv)[k] = q at *
              have HPK := Lib.hid hPk
              have HUS := Lib.hid hus
              have HPICK := Lib.hid hpk
              have HJNE := Lib.hid hjne
              clear hus hpk hjne hPk
              have hqn : q < n := by rw [HL.out] at hin; exact hin
              go_wp2_with fail
              go_loopw [11] (fun i wr => ∃ j : Nat, j ≤ k ∧ i = .int .i64 (j : Int) ∧ OwnsH W.heap.size (ups hs lv k) wr (.slice A9 (ups hs lv k).length c9) ∧ Below W.heap.size W wr) (fun i _ => k - (intOf i).toNat)
              case atStart => exact ⟨0, Nat.zero_le _, rfl, ho, hb⟩
              case round =>
                clear ho hb
                obtain ⟨j, hj, rfl, ho, hb⟩ := hrel
                by_cases hlt2 : j < k
                · obtain ⟨b, hlb, rfl, hbb, hc5⟩ := (hg2.below hb).int (show j < P.length by omega)
                  obtain ⟨b_, hlb2, hbe, hbb2, hc6⟩ := (hg2.below hb).int hlt
                  obtain rfl : b = b_ := by simpa using hbe
                  have hne := HJNE.out j hlt2
                  have hee : (P[j] == P[k]) = false := beq_eq_false_iff_ne.2 hne
                  have hj63 : (j : Int) < (P.length : Int) := by omega
                  have hk63 : (k : Int) < (P.length : Int) := by omega
                  generalize P[j] = pj at *
                  clear hne
                  generalize hpk2 : P[k] = pk at *
                  have HPK2 := Lib.hid hpk2
                  clear hpk2
                  go_wp2_with fail
                  go_quiet (fail)
                  go_wp2_with fail
                  go_roundw
                  case rel => exact ⟨j + 1, by omega, by go_num, ho, below_drewN hb _⟩
                  case measure => simp [intOf]; omega
                · obtain rfl : k = j := by omega
                  go_wp2_with fail
                  go_loopw [8, 9, 12] (fun u v i wr => ∃ i' : Nat, i' ≤ n ∧ i = .int .i64 (i' : Int) ∧ u = .int .i64 (((ups hs lv (if i' ≤ q then k else k + 1)).length : Nat) : Int) ∧ OwnsH W.heap.size (ups hs lv (if i' ≤ q then k else k + 1)) wr v ∧ Below W.heap.size W wr) (fun _ _ i _ => n - (intOf i).toNat)
                  case atStart => exact ⟨0, Nat.zero_le _, rfl, by simp, by simpa using ho, hb⟩
                  case round =>
                    clear ho hb
                    obtain ⟨i, hi, rfl, rfl, ho, hb⟩ := hrel
                    obtain ⟨A8, c8, rfl, hlc8, hcm8, -⟩ := own_form ho
                    have hul := ups_le hs lv (if i ≤ q then k else k + 1)
                    rw [HL.out] at hul
                    by_cases hlt3 : i < n
                    · obtain ⟨b, hlb, rfl, hbb, hc5⟩ := (hg2.below hb).int hlt
                      obtain ⟨a, hl, rfl, ⟨hbk, d0, d1, d2, d3, d4⟩, hok⟩ := (HW.below hb).at_ hlt3
                      have hni : hs[i].hd.num = nm hs i := by unfold nm; rw [getD_lt hs hv0 hl]
                      have hk63 : (k : Int) < (P.length : Int) := by omega
                      by_cases hiq : i = q
                      · subst hiq
                        have hgd := getD_lt hs hv0 hl
                        rw [if_pos (Nat.le_refl _)] at ho hlc8 hul ⊢
                        have HN1 : Hid ((if i + 1 ≤ i then k else k + 1) = k + 1) := Lib.hid (by rw [if_neg (by omega)])
                        have hnum : P[k] = hs[i].hd.num := by rw [hni, HPK.out]
                        rw [hnum] at hc5
                        have HGD := Lib.hid hgd
                        clear hnum hni hgd
                        generalize hs[i] = x at *
                        have hneq : (x.hd.num != x.hd.num) = false := by simp
                        cases hfr : fromB hs lv i
                        · have hle1 : x.hd.level = T := by
                            have := pickB_level HPICK.out hfr
                            rw [HGD.out] at this
                            rw [this, HT.out]
                          have l1 : (x.hd.level == T - 1) = false := beq_eq_false_iff_ne.2 (by omega)
                          have l2 : (x.hd.level == T) = true := beq_iff_eq.2 hle1
                          have HFR := Lib.hid hfr
                          clear hfr hle1
                          go_wp2_with fail
                          go_quiet (fail)
                          go_wp2_with fail
                          go_roundw
                          case rel => exact ⟨i + 1, hlt3, by go_num, by rw [HN1.out, HUS.out, if_neg (by rw [HFR.out]; decide), List.append_nil], by rw [HN1.out, HUS.out, if_neg (by rw [HFR.out]; decide), List.append_nil]; exact ho, below_drewN hb _⟩
                          case measure => simp [intOf]; omega
                        · have hle1 : x.hd.level = T - 1 := by
                            have := fromB_level hfr
                            rw [HGD.out] at this
                            rw [this, HT.out]
                            omega
                          have l1 : (x.hd.level == T - 1) = true := beq_iff_eq.2 hle1
                          have HFR := Lib.hid hfr
                          clear hfr hle1
                          go_wp2_with fail
                          go_quiet (fail)
                          go_wp2_with (at_builtin; refine stop_in ?_)
                          refine stop_out (wpList_app rfl (.tmp 125) (.tmp 130) _ rfl W.heap.size 27 j0 _ 5 72 Try.underlying22 hj0 hj1 hj2 hj3 rfl (by omega) W ((below_drewN hb _).alloc hb.size _) (by have := hb.size; simp; omega) _ _ _ rfl (World.ownsRow.alloc (w := wr.drewN _) ho _)
                            _ _ 1 1 (x.cs) rfl (row_box (wr.drewN _) x) (by have := cs_one [x]; simpa using this) _ _ rfl rfl (by unfold maxLen; omega) (by omega) ?_)
                          intro A3 c3 w3 ho3 hb3 _ hc3 hm3
                          clear ho
                          go_wp2_with fail
                          go_roundw
                          case rel => exact ⟨i + 1, hlt3, by go_num, by rw [HN1.out, HUS.out, if_pos HFR.out, List.length_append]; rfl, by rw [HN1.out, HUS.out, if_pos HFR.out, HGD.out]; exact OwnsH.snoc ho3, hb3⟩
                          case measure => simp [intOf]; omega
                      · have hnum : hs[i].hd.num ≠ P[k] := by
                          rw [hni, HPK.out]
                          intro e
                          exact hiq (HDD.out.inj hl hin e)
                        have HN1 : Hid ((if i + 1 ≤ q then k else k + 1) = (if i ≤ q then k else k + 1)) := Lib.hid (by
                          by_cases h5 : i ≤ q
                          · rw [if_pos h5, if_pos (by omega)]
                          · rw [if_neg h5, if_neg (by omega)])
                        have hneq : (hs[i].hd.num != P[k]) = true := bne_iff_ne.2 hnum
                        clear hnum hni
                        generalize hs[i] = x at *
                        generalize hPk3 : P[k] = pk at *
                        have HPK3 := Lib.hid hPk3
                        clear hPk3
                        generalize (if i ≤ q then k else k + 1) = kk at *
                        go_wp2_with fail
                        go_quiet (fail)
                        go_wp2_with fail
                        go_roundw
                        case rel => exact ⟨i + 1, hlt3, by go_num, by rw [HN1.out], by rw [HN1.out]; exact ho, below_drewN hb _⟩
                        case measure => simp [intOf]; omega
                    · obtain rfl : n = i := by omega
                      rw [if_neg (by omega)] at ho hlc8 ⊢
                      clear hul
                      go_wp2_with fail
                      go_roundw
                      case rel => exact ⟨k + 1, hlt, by go_num, rfl, ho, hb⟩
                      case measure => simp [intOf]; omega
            · obtain rfl : k = P.length := by omega
              have hke : P.length = (idx hs lv).length := HPL.out
              have hF9 : Helds wr.heap.size wr A9 (ups hs lv P.length).length (ups hs lv P.length) :=
                ⟨rfl, (OwnsH.hrow ho).row, fun f hf => ((HW.ok f (ups_mem hf)).below hb).up hb.size⟩
              have hUU : (T = 1 ∧ 4 ≤ (ups hs lv P.length).length) ∨ (1 < T ∧ (ups hs lv P.length).length = 1) := by
                rw [hke]
                have e := HT.out
                rcases (by omega : lv = 0 ∨ 0 < lv) with h5 | h5
                · exact .inl ⟨by omega, HU0.out h5⟩
                · exact .inr ⟨by omega, HU1.out h5⟩
              have hul := ups_le hs lv P.length
              rw [HL.out] at hul
              have HWH : Hid (∀ i (hi : i < hs.length), hs[i].hd.level = T → (ups hs lv P.length).any (fun f => f.hd.touch hs[i].hd) = decide (hs[i].hd.num ∈ P)) := Lib.hid (by
                intro i hi hl
                rw [hke, ← HP.out]
                exact want_has HDD.out hi (by rw [hl, HT.out]))
              clear ho hke hlt hk
              generalize ups hs lv P.length = F at *
              obtain ⟨V, rfl⟩ : ∃ V : World, V = wr := ⟨_, rfl⟩
              have hzV := later_ hz hb
              have HV := (HW.below hb).up hb.size
              have hgV := (hg2.below hb).up hb.size
              clear HW hg2 hb hz
              go_upto_region 36 with (fail)
              go_cut [148] (fun u wx => u = .bool false ∧ V = wx)
              case first =>
                rcases hUU with ⟨rfl, h6⟩ | ⟨h5, h6⟩
                · go_wp2_with fail
                  go_meet
                  case rel => exact ⟨congrArg Value.bool (decide_eq_false (by omega)), rfl⟩
                · have b1 : (T == 1) = false := beq_eq_false_iff_ne.2 (by omega)
                  go_wp2_with fail
                  go_meet
                  case rel => exact ⟨rfl, rfl⟩
              case rest =>
                obtain ⟨rfl, rfl⟩ := hcut
                clear hUU
                go_wp2_with fail
                go_loopw [13] (fun i wr => ∃ i' : Nat, i' ≤ n ∧ i = .int .i64 (i' : Int) ∧ Below V.heap.size V wr) (fun i _ => n - (intOf i).toNat)
                case atStart => exact ⟨0, Nat.zero_le _, rfl, Below.refl _ _⟩
                case round =>
                  obtain ⟨i, hi, rfl, hb⟩ := hrel
                  by_cases hlt : i < n
                  · obtain ⟨a, hl, rfl, hat, hok⟩ := HV.at_ hlt
                    have hwh := HWH.out i hl
                    generalize hs[i] = x at *
                    obtain ⟨hbk, d0, d1, d2, d3, d4⟩ := hat.below hb
                    by_cases hle : x.hd.level = T
                    · have hwh2 := hwh hle
                      have HWH2 := Lib.hid hwh2
                      have hne : (x.hd.level != T) = false := by simp [hle]
                      clear hwh hwh2 hle
                      go_wp2_with fail
                      go_loopw [14, 16] (fun g i wr => ∃ t : Nat, t ≤ F.length ∧ i = .int .i64 (t : Int) ∧ g = .bool ((F.take t).any (fun f => f.hd.touch x.hd)) ∧ Below V.heap.size V wr) (fun _ i _ => F.length - (intOf i).toNat)
                      case atStart => exact ⟨0, Nat.zero_le _, rfl, rfl, hb⟩
                      case round =>
                        clear hb d0 d1 d2 d3 d4
                        obtain ⟨t, ht, rfl, rfl, hb⟩ := hrel
                        by_cases hlt2 : t < F.length
                        · obtain ⟨a9, hl9, rfl, hat9, hok9⟩ := hF9.at_ hlt2
                          have htk := take_next hl9
                          have hsn : (F.take (t + 1)).any (fun f => f.hd.touch x.hd) = ((F.take t).any (fun f => f.hd.touch x.hd) || F[t].hd.touch x.hd) := by rw [htk, List.any_append]; simp
                          generalize F[t] = y at *
                          have HSN := Lib.hid hsn
                          clear hsn htk
                          have okx := (hok.below hb).up hb.size
                          have oky := (hok9.below hb).up hb.size
                          obtain ⟨hbk2, d0, d1, d2, d3, d4⟩ := hat.below hb
                          obtain ⟨hbk3, e0, e1, e2, e3, e4⟩ := hat9.below hb
                          have KT := Lib.hid (touch_at oky okx rfl)
                          have hx1 : (a.add (i * 5)).block < wr.heap.size := by rw [add_block]; exact Nat.lt_of_lt_of_le hbk2 hb.size
                          have hx2 : (a9.add (t * 5)).block < wr.heap.size := by rw [add_block]; exact Nat.lt_of_lt_of_le hbk3 hb.size
                          have KB := Lib.hid (fun w' (hw : Below wr.heap.size wr w') => (⟨⟨(hw.cell hx1).trans d0, (hw.cell (p := ⟨_, _, none⟩) hx1).trans d1, (hw.cell (p := ⟨_, _, none⟩) hx1).trans d2, (hw.cell (p := ⟨_, _, none⟩) hx1).trans d3, (hw.cell (p := ⟨_, _, none⟩) hx1).trans d4⟩,
                            ⟨(hw.cell hx2).trans e0, (hw.cell (p := ⟨_, _, none⟩) hx2).trans e1, (hw.cell (p := ⟨_, _, none⟩) hx2).trans e2, (hw.cell (p := ⟨_, _, none⟩) hx2).trans e3, (hw.cell (p := ⟨_, _, none⟩) hx2).trans e4⟩⟩ :
                            (w'.cell? (a.add (i * 5)) = some (.int .i64 x.hd.num) ∧ w'.cell? ⟨(a.add (i * 5)).block, (a.add (i * 5)).off + 1, none⟩ = some (.int .i64 x.hd.level) ∧ w'.cell? ⟨(a.add (i * 5)).block, (a.add (i * 5)).off + 2, none⟩ = some (.slice x.fa x.fn x.fc) ∧ w'.cell? ⟨(a.add (i * 5)).block, (a.add (i * 5)).off + 3, none⟩ = some (.slice x.la x.ln x.lc) ∧ w'.cell? ⟨(a.add (i * 5)).block, (a.add (i * 5)).off + 4, none⟩ = some (.int .i64 x.hd.len)) ∧
                            (w'.cell? (a9.add (t * 5)) = some (.int .i64 y.hd.num) ∧ w'.cell? ⟨(a9.add (t * 5)).block, (a9.add (t * 5)).off + 1, none⟩ = some (.int .i64 y.hd.level) ∧ w'.cell? ⟨(a9.add (t * 5)).block, (a9.add (t * 5)).off + 2, none⟩ = some (.slice y.fa y.fn y.fc) ∧ w'.cell? ⟨(a9.add (t * 5)).block, (a9.add (t * 5)).off + 3, none⟩ = some (.slice y.la y.ln y.lc) ∧ w'.cell? ⟨(a9.add (t * 5)).block, (a9.add (t * 5)).off + 4, none⟩ = some (.int .i64 y.hd.len))))
                          have hi63 : (i : Int) < (n : Int) := by omega
                          have ht63 : (t : Int) < (F.length : Int) := by omega
                          generalize y.hd.touch x.hd = r at *
                          cases hG : (F.take t).any (fun f => f.hd.touch x.hd)
                          · as_aux_lemma =>
                              rw [hG] at HSN
                              clear hG
                              go_wp2_with fail
                              refine wp_region_held_drew (S := fun w' => Below wr.heap.size wr w') rfl (below_drew (Below.refl _ _)) (fun hSw => ?_)
                              refine wpAnyH_take (i := 0) (v := ?v0) rfl (by kernel_rfl) (by kernel_rfl) (by kernel_rfl) (fun _ _ _ h => h) (Or.inl ⟨by rfl, ?h0⟩) hSw ?k0
                              case h0 => (intro w hSw; obtain ⟨⟨x0, x1, x2, x3, x4⟩, ⟨y0, y1, y2, y3, y4⟩⟩ := KB.out w hSw; go_simp; try (with_reducible rfl))
                              go_simp
                              refine wpAnyH_take (i := 1) (v := ?v1) rfl (by kernel_rfl) (by kernel_rfl) (by kernel_rfl) (fun _ _ _ h => h) (Or.inl ⟨by rfl, ?h1⟩) hSw ?k1
                              case h1 => (intro w hSw; obtain ⟨⟨x0, x1, x2, x3, x4⟩, ⟨y0, y1, y2, y3, y4⟩⟩ := KB.out w hSw; go_simp; try (with_reducible rfl))
                              go_simp
                              refine wpAnyH_take (i := 2) (v := ?v2) rfl (by kernel_rfl) (by kernel_rfl) (by kernel_rfl) (fun _ _ _ h => h) (Or.inl ⟨by rfl, ?h2⟩) hSw ?k2
                              case h2 => (intro w hSw; obtain ⟨⟨x0, x1, x2, x3, x4⟩, ⟨y0, y1, y2, y3, y4⟩⟩ := KB.out w hSw; go_simp; try (with_reducible rfl))
                              go_simp
                              refine wpAnyH_take (i := 3) (v := ?v3) rfl (by kernel_rfl) (by kernel_rfl) (by kernel_rfl) (fun _ _ _ h => h) (Or.inl ⟨by rfl, ?h3⟩) hSw ?k3
                              case h3 => (intro w hSw; obtain ⟨⟨x0, x1, x2, x3, x4⟩, ⟨y0, y1, y2, y3, y4⟩⟩ := KB.out w hSw; go_simp; try (with_reducible rfl))
                              go_simp
                              refine wpAnyH_take (i := 4) (v := ?v4) rfl (by kernel_rfl) (by kernel_rfl) (by kernel_rfl) (fun _ _ _ h => h) (Or.inl ⟨by rfl, ?h4⟩) hSw ?k4
                              case h4 => (intro w hSw; obtain ⟨⟨x0, x1, x2, x3, x4⟩, ⟨y0, y1, y2, y3, y4⟩⟩ := KB.out w hSw; go_simp; try (with_reducible rfl))
                              go_simp
                              refine wpAnyH_take (i := 5) (v := ?v5) rfl (by kernel_rfl) (by kernel_rfl) (by kernel_rfl) (fun _ _ _ h => h) (Or.inl ⟨by rfl, ?h5⟩) hSw ?k5
                              case h5 => (intro w hSw; obtain ⟨⟨x0, x1, x2, x3, x4⟩, ⟨y0, y1, y2, y3, y4⟩⟩ := KB.out w hSw; go_simp; try (with_reducible rfl))
                              go_simp
                              refine wpAnyH_take (i := 6) (v := ?v6) rfl (by kernel_rfl) (by kernel_rfl) (by kernel_rfl) (fun _ _ _ h => h) (Or.inl ⟨by rfl, ?h6⟩) hSw ?k6
                              case h6 => (intro w hSw; obtain ⟨⟨x0, x1, x2, x3, x4⟩, ⟨y0, y1, y2, y3, y4⟩⟩ := KB.out w hSw; go_simp; try (with_reducible rfl))
                              go_simp
                              refine wpAnyH_take (i := 7) (v := ?v7) rfl (by kernel_rfl) (by kernel_rfl) (by kernel_rfl) (fun _ _ _ h => h) (Or.inl ⟨by rfl, ?h7⟩) hSw ?k7
                              case h7 => (intro w hSw; obtain ⟨⟨x0, x1, x2, x3, x4⟩, ⟨y0, y1, y2, y3, y4⟩⟩ := KB.out w hSw; go_simp; try (with_reducible rfl))
                              go_simp
                              refine wpAnyH_take (i := 8) (v := ?v8) rfl (by kernel_rfl) (by kernel_rfl) (by kernel_rfl) (fun _ _ _ h => h) (Or.inl ⟨by rfl, ?h8⟩) hSw ?k8
                              case h8 => (intro w hSw; obtain ⟨⟨x0, x1, x2, x3, x4⟩, ⟨y0, y1, y2, y3, y4⟩⟩ := KB.out w hSw; go_simp; try (with_reducible rfl))
                              go_simp
                              refine wpAnyH_take (i := 9) (v := ?v9) rfl (by kernel_rfl) (by kernel_rfl) (by kernel_rfl) (fun _ _ _ h => h) (Or.inl ⟨by rfl, ?h9⟩) hSw ?k9
                              case h9 => (intro w hSw; obtain ⟨⟨x0, x1, x2, x3, x4⟩, ⟨y0, y1, y2, y3, y4⟩⟩ := KB.out w hSw; go_simp; try (with_reducible rfl))
                              go_simp
                              refine wpAnyH_ready (rs := [10]) (by kernel_rfl) (by simp) ?_
                              refine AllReadyH.cons rfl (fun K hK => ?_) AllReadyH.nil
                              go_simp
                              first | ((with_reducible refine (KT.out _ hSw).mono ?_); rintro e w10 ⟨rfl, hSw10⟩)
                              go_simp
                              refine hK.out _ _ hSw10 (fun _ => ?_)
                              clear hK K hSw
                              have hSw := hSw10
                              clear hSw10
                              go_simp
                              refine wpAnyH_take (i := 11) (v := ?v11) rfl (by kernel_rfl) (by kernel_rfl) (by kernel_rfl) (fun _ _ _ h => h) (Or.inl ⟨by rfl, ?h11⟩) hSw ?k11
                              case h11 => (intro w hSw; obtain ⟨⟨x0, x1, x2, x3, x4⟩, ⟨y0, y1, y2, y3, y4⟩⟩ := KB.out w hSw; go_simp; try (with_reducible rfl))
                              go_simp
                              refine wpAnyH_take (i := 12) (v := ?v12) rfl (by kernel_rfl) (by kernel_rfl) (by kernel_rfl) (fun _ _ _ h => h) (Or.inl ⟨by rfl, ?h12⟩) hSw ?k12
                              case h12 => (intro w hSw; obtain ⟨⟨x0, x1, x2, x3, x4⟩, ⟨y0, y1, y2, y3, y4⟩⟩ := KB.out w hSw; go_simp; try (with_reducible rfl))
                              go_simp
                              refine wpAnyH_done (by kernel_rfl) ?_ _
                              go_wp2
                              go_roundw
                              case rel => exact ⟨t + 1, hlt2, by go_num, by rw [HSN.out]; simp, later_ hb hSw⟩
                              case measure => simp [intOf]; omega
                          · as_aux_lemma =>
                              rw [hG] at HSN
                              clear hG
                              go_wp2_with fail
                              refine wp_region_held_drew (S := fun w' => Below wr.heap.size wr w') rfl (below_drew (Below.refl _ _)) (fun hSw => ?_)
                              refine wpAnyH_take (i := 0) (v := ?vb0) rfl (by kernel_rfl) (by kernel_rfl) (by kernel_rfl) (fun _ _ _ h => h) (Or.inl ⟨by rfl, ?hb0⟩) hSw ?kb0
                              case hb0 => (intro w hSw; obtain ⟨⟨x0, x1, x2, x3, x4⟩, ⟨y0, y1, y2, y3, y4⟩⟩ := KB.out w hSw; go_simp; try (with_reducible rfl))
                              go_simp
                              refine wpAnyH_take (i := 1) (v := ?vb1) rfl (by kernel_rfl) (by kernel_rfl) (by kernel_rfl) (fun _ _ _ h => h) (Or.inl ⟨by rfl, ?hb1⟩) hSw ?kb1
                              case hb1 => (intro w hSw; obtain ⟨⟨x0, x1, x2, x3, x4⟩, ⟨y0, y1, y2, y3, y4⟩⟩ := KB.out w hSw; go_simp; try (with_reducible rfl))
                              go_simp
                              refine wpAnyH_take (i := 2) (v := undef) rfl (by kernel_rfl) (by kernel_rfl) (by kernel_rfl) (fun _ _ _ h => h) (Or.inr ⟨by rfl, rfl⟩) hSw ?_
                              go_simp
                              refine wpAnyH_take (i := 3) (v := undef) rfl (by kernel_rfl) (by kernel_rfl) (by kernel_rfl) (fun _ _ _ h => h) (Or.inr ⟨by rfl, rfl⟩) hSw ?_
                              go_simp
                              refine wpAnyH_take (i := 4) (v := undef) rfl (by kernel_rfl) (by kernel_rfl) (by kernel_rfl) (fun _ _ _ h => h) (Or.inr ⟨by rfl, rfl⟩) hSw ?_
                              go_simp
                              refine wpAnyH_take (i := 5) (v := undef) rfl (by kernel_rfl) (by kernel_rfl) (by kernel_rfl) (fun _ _ _ h => h) (Or.inr ⟨by rfl, rfl⟩) hSw ?_
                              go_simp
                              refine wpAnyH_take (i := 6) (v := undef) rfl (by kernel_rfl) (by kernel_rfl) (by kernel_rfl) (fun _ _ _ h => h) (Or.inr ⟨by rfl, rfl⟩) hSw ?_
                              go_simp
                              refine wpAnyH_take (i := 7) (v := undef) rfl (by kernel_rfl) (by kernel_rfl) (by kernel_rfl) (fun _ _ _ h => h) (Or.inr ⟨by rfl, rfl⟩) hSw ?_
                              go_simp
                              refine wpAnyH_take (i := 8) (v := undef) rfl (by kernel_rfl) (by kernel_rfl) (by kernel_rfl) (fun _ _ _ h => h) (Or.inr ⟨by rfl, rfl⟩) hSw ?_
                              go_simp
                              refine wpAnyH_take (i := 9) (v := undef) rfl (by kernel_rfl) (by kernel_rfl) (by kernel_rfl) (fun _ _ _ h => h) (Or.inr ⟨by rfl, rfl⟩) hSw ?_
                              go_simp
                              refine wpAnyH_take (i := 10) (v := undef) rfl (by kernel_rfl) (by kernel_rfl) (by kernel_rfl) (fun _ _ _ h => h) (Or.inr ⟨by rfl, rfl⟩) hSw ?_
                              go_simp
                              refine wpAnyH_take (i := 11) (v := ?vb11) rfl (by kernel_rfl) (by kernel_rfl) (by kernel_rfl) (fun _ _ _ h => h) (Or.inl ⟨by rfl, ?hb11⟩) hSw ?kb11
                              case hb11 => (intro w hSw; obtain ⟨⟨x0, x1, x2, x3, x4⟩, ⟨y0, y1, y2, y3, y4⟩⟩ := KB.out w hSw; go_simp; try (with_reducible rfl))
                              go_simp
                              refine wpAnyH_take (i := 12) (v := ?vb12) rfl (by kernel_rfl) (by kernel_rfl) (by kernel_rfl) (fun _ _ _ h => h) (Or.inl ⟨by rfl, ?hb12⟩) hSw ?kb12
                              case hb12 => (intro w hSw; obtain ⟨⟨x0, x1, x2, x3, x4⟩, ⟨y0, y1, y2, y3, y4⟩⟩ := KB.out w hSw; go_simp; try (with_reducible rfl))
                              go_simp
                              refine wpAnyH_done (by kernel_rfl) ?_ _
                              go_wp2
                              go_roundw
                              case rel => exact ⟨t + 1, hlt2, by go_num, by rw [HSN.out]; simp, later_ hb hSw⟩
                              case measure => simp [intOf]; omega
                        · obtain rfl : t = F.length := by omega
                          rw [List.take_length]
                          go_wp2_with fail
                          go_loopw [15, 17] (fun g i wr => ∃ t : Nat, t ≤ P.length ∧ i = .int .i64 (t : Int) ∧ g = .bool (decide (x.hd.num ∈ P.take t)) ∧ Below V.heap.size V wr) (fun _ i _ => P.length - (intOf i).toNat)
                          case atStart => exact ⟨0, Nat.zero_le _, rfl, by simp, hb⟩
                          case round =>
                            clear hb
                            obtain ⟨t, ht, rfl, rfl, hb⟩ := hrel
                            obtain ⟨hbk2, d0, d1, d2, d3, d4⟩ := hat.below hb
                            by_cases hlt3 : t < P.length
                            · obtain ⟨ai, hli, rfl, hbi, ci⟩ := (hgV.below hb).int hlt3
                              have T1 := Lib.hid (take_next hli)
                              generalize P[t] = y at *
                              have hi63 : (i : Int) < (n : Int) := by omega
                              have ht63 : (t : Int) < (P.length : Int) := by omega
                              cases hg : decide (x.hd.num ∈ P.take t)
                              · have HGN := Lib.hid hg
                                clear hg
                                by_cases hy : y = x.hd.num
                                · subst hy
                                  go_wp2_with fail
                                  go_quiet (fail)
                                  go_wp2
                                  go_roundw
                                  case rel => exact ⟨t + 1, hlt3, by go_num, by rw [T1.out]; simp, below_drewN hb _⟩
                                  case measure => simp [intOf]; omega
                                · have hy' : (y == x.hd.num) = false := beq_eq_false_iff_ne.2 hy
                                  have HY := Lib.hid hy
                                  clear hy
                                  go_wp2_with fail
                                  go_quiet (fail)
                                  go_wp2
                                  go_roundw
                                  case rel =>
                                    refine ⟨t + 1, hlt3, by go_num, ?_, below_drewN hb _⟩
                                    have h1 : x.hd.num ∉ P.take t := of_decide_eq_false HGN.out
                                    rw [T1.out, decide_eq_false]
                                    intro hm
                                    rcases List.mem_append.1 hm with hm | hm
                                    · exact h1 hm
                                    · exact HY.out (List.mem_singleton.1 hm).symm
                                  case measure => simp [intOf]; omega
                              · have HGN := Lib.hid hg
                                clear hg
                                go_wp2_with fail
                                go_quiet (fail)
                                go_wp2
                                go_roundw
                                case rel =>
                                  refine ⟨t + 1, hlt3, by go_num, ?_, below_drewN hb _⟩
                                  have h1 : x.hd.num ∈ P.take t := of_decide_eq_true HGN.out
                                  rw [T1.out, decide_eq_true (List.mem_append_left _ h1)]
                                case measure => simp [intOf]; omega
                            · obtain rfl : t = P.length := by omega
                              rw [List.take_length, HWH2.out]
                              generalize decide (x.hd.num ∈ P) = r at *
                              go_wp2_with fail
                              go_roundw
                              case rel => exact ⟨i + 1, hlt, by go_num, hb⟩
                              case measure => simp [intOf]; omega
                    · have hne : (x.hd.level != T) = true := bne_iff_ne.2 hle
                      clear hwh hle
                      go_wp2_with fail
                      go_roundw
                      case rel => exact ⟨i + 1, hlt, by go_num, hb⟩
                      case measure => simp [intOf]; omega
                  · obtain rfl : n = i := by omega
                    go_wp2_with fail
                    refine (awake_any _).mono ?_
                    rintro e w11 ⟨rfl, hb11⟩
                    go_wp2
                    go_ret
                    exact ⟨rfl, later_ (later_ hzV hb) hb11⟩
end Go.Proofs.Ytfbollkafcdfhaa
