/-
  The walk of the law LevelAfter.
-/
import Derived.Test.YtfbollkafcdfhaaLevelJ
namespace Go.Proofs.Ytfbollkafcdfhaa
open Go.RowKit

theorem At.below {B k : Nat} {w w' : World} {a : Addr} {x : Hv} (h : At B w a k x) (hb : Below B w w') : At B w' a k x :=
  ⟨h.blk, (hb.cell (by rw [add_block]; exact h.blk)).trans h.c0, (hb.cell (p := ⟨_, _, none⟩) (by rw [add_block]; exact h.blk)).trans h.c1, (hb.cell (p := ⟨_, _, none⟩) (by rw [add_block]; exact h.blk)).trans h.c2,
    (hb.cell (p := ⟨_, _, none⟩) (by rw [add_block]; exact h.blk)).trans h.c3, (hb.cell (p := ⟨_, _, none⟩) (by rw [add_block]; exact h.blk)).trans h.c4⟩
theorem few_len {hs : List Hv} (h : few hs = true) : hs.length ≤ 50 := by
  unfold few at h
  simp at h
  exact h.1
theorem conv_str {B n : Nat} {w : World} {A : Option Addr} {l : List UInt8} (h : Row B w A n 1 (bts l)) (c : Nat) : (convert 25 9 (.slice A n c)).run Try.prog w = .ok (.string ⟨l.toArray⟩) w :=
  conv_row _ _ 5 Try.underlying25 Try.underlying5 Try.underlying9 h c
theorem kept_take {hs : List Hv} {inn : List Int} {i : Nat} (hi : i < hs.length) (hx : hs[i].hd.num ∉ inn) : (kept hs inn)[(kept (hs.take i) inn).length]? = some hs[i] := by
  have e : hs = hs.take i ++ hs[i] :: hs.drop (i + 1) := by
    rw [← List.drop_eq_getElem_cons hi, List.take_append_drop]
  have e2 : kept hs inn = kept (hs.take i) inn ++ (hs[i] :: kept (hs.drop (i + 1)) inn) := by
    conv => lhs; rw [e]
    unfold kept
    rw [List.filter_append, List.filter_cons, if_pos (by simp [hx])]
  rw [e2, List.getElem?_append_right (Nat.le_refl _), Nat.sub_self]
  rfl

set_option maxRecDepth 100000 in
set_option maxHeartbeats 4000000 in
theorem levelAfter_walk (A M I : Option Addr) (n c m d p q : Nat) (lto : Int) (hs made : List Hv) (inn : List Int) (w : World) (hn : n ≤ 9223372036854775807) (hm : m ≤ 9223372036854775807) (hp : p ≤ 9223372036854775807)
    (h : Helds w.heap.size w A n hs) (h2 : Helds w.heap.size w M m made) (h3 : Row w.heap.size w I p 1 (ints inn)) :
    Calls Try.prog 7 #[.slice A n c, .slice I p q, .int .i64 lto, .slice M m d] w fun e w' => e = .returned (.bool true) ∧ Below w.heap.size w w' := by
  cases hf : few hs with
  | false =>
    have HF := Lib.hid hf
    clear hf
    go_enter Try.func7, Try.ntmps7
    go_wp2_with fail
    refine (few_any hs _ _ _ hn _ h).mono ?_
    rintro e w1 ⟨rfl, hb1⟩
    rw [HF.out]
    go_wp2_with fail
    refine (awake_any _).mono ?_
    rintro e w2 ⟨rfl, hb2⟩
    go_wp2
    go_ret
    exact ⟨rfl, later_ hb1 hb2⟩
  | true =>
    have hn50 := few_len hf
    rw [h.len] at hn50
    have HF := Lib.hid hf
    clear hf
    cases hf2 : few made with
    | false =>
      have HF2 := Lib.hid hf2
      clear hf2
      go_enter Try.func7, Try.ntmps7
      go_wp2_with fail
      refine (few_any hs _ _ _ hn _ h).mono ?_
      rintro e w1 ⟨rfl, hb1⟩
      rw [HF.out]
      go_wp2_with fail
      refine (few_any made _ _ _ hm _ ((h2.below hb1).up hb1.size)).mono ?_
      rintro e w2 ⟨rfl, hb2⟩
      rw [HF2.out]
      go_wp2_with fail
      refine (awake_any _).mono ?_
      rintro e w3 ⟨rfl, hb3⟩
      go_wp2
      go_ret
      exact ⟨rfl, later_ (later_ hb1 hb2) hb3⟩
    | true =>
      have hm50 := few_len hf2
      rw [h2.len] at hm50
      have HF2 := Lib.hid hf2
      clear hf2
      by_cases hp50 : 50 < p
      · have hp50' : (50 : Int) < (p : Int) := by omega
        go_enter Try.func7, Try.ntmps7
        go_wp2_with fail
        refine (few_any hs _ _ _ hn _ h).mono ?_
        rintro e w1 ⟨rfl, hb1⟩
        rw [HF.out]
        go_wp2_with fail
        refine (few_any made _ _ _ hm _ ((h2.below hb1).up hb1.size)).mono ?_
        rintro e w2 ⟨rfl, hb2⟩
        rw [HF2.out]
        go_wp2_with fail
        refine (awake_any _).mono ?_
        rintro e w3 ⟨rfl, hb3⟩
        go_wp2
        go_ret
        exact ⟨rfl, later_ (later_ hb1 hb2) hb3⟩
      · have hp50' : ¬ (50 : Int) < (p : Int) := by omega
        go_enter Try.func7, Try.ntmps7
        go_wp2_with fail
        refine (few_any hs _ _ _ hn _ h).mono ?_
        rintro e w1 ⟨rfl, hb1⟩
        rw [HF.out]
        go_wp2_with fail
        refine (few_any made _ _ _ hm _ ((h2.below hb1).up hb1.size)).mono ?_
        rintro e w2 ⟨rfl, hb2⟩
        rw [HF2.out]
        have hb2' := later_ hb1 hb2
        go_wp2_with fail
        refine (after_any hs made inn lto A M I n c m d p q (by omega) (by omega) (by omega) _ ((h.below hb2').up hb2'.size).hrow ((h2.below hb2').up hb2'.size).hrow ((h3.below hb2').up hb2'.size)).mono ?_
        rintro e w3 ⟨⟨B, rfl, hG⟩, hb3⟩
        have hz := later_ hb2' hb3
        clear hb1 hb2 hb2' hb3 HF HF2
        have H := (h.below hz).up hz.size
        have H2 := (h2.below hz).up hz.size
        have H3 := (h3.below hz).up hz.size
        clear h h2 h3 hn hm hp
        have HL := Lib.hid H.len
        have HL2 := Lib.hid H2.len
        have HL3 := Lib.hid H3.intlen
        have hGl : (afterL hs inn lto made).length ≤ 100 := by
          have := kept_le hs inn
          unfold afterL
          rw [List.length_append, List.length_map, HL2.out]
          rw [HL.out] at this
          omega
        generalize hg : afterL hs inn lto made = G at *
        have HG := Lib.hid hg
        clear hg
        go_wp2_with fail
        go_loopw [10, 11] (fun x i wr => ∃ k : Nat, k ≤ n ∧ i = .int .i64 (k : Int) ∧ x = .int .i64 (((kept (hs.take k) inn).length : Nat) : Int) ∧ Below w3.heap.size w3 wr) (fun _ i _ => n - (intOf i).toNat)
        case atStart => exact ⟨0, Nat.zero_le _, rfl, rfl, Below.refl _ _⟩
        case round =>
          obtain ⟨k, hk, rfl, rfl, hb⟩ := hrel
          have hle := kept_le (hs.take k) inn
          have hle2 := List.length_take_le k hs
          by_cases hlt : k < n
          · obtain ⟨a, hl, rfl, hat, hok⟩ := H.at_ hlt
            have e1 := kept_snoc (hs.take k) inn hs[k]
            rw [← take_next hl] at e1
            have E1 := Lib.hid e1
            have E2 := Lib.hid (fun h => kept_take (inn := inn) hl h)
            clear e1
            generalize hs[k] = x at *
            generalize hK : (kept (hs.take k) inn).length = K at *
            have HK := Lib.hid hK
            clear hK
            go_wp2_with fail
            go_loopw [12, 13] (fun g j wr => ∃ t : Nat, t ≤ p ∧ j = .int .i64 (t : Int) ∧ g = .bool (decide (x.hd.num ∈ inn.take t)) ∧ Below w3.heap.size w3 wr) (fun _ j _ => p - (intOf j).toNat)
            case atStart => exact ⟨0, Nat.zero_le _, rfl, by simp, hb⟩
            case round =>
              clear hb
              obtain ⟨t, ht, rfl, rfl, hb⟩ := hrel
              obtain ⟨hbk, d0, d1, d2, d3, d4⟩ := hat.below hb
              by_cases hlt2 : t < p
              · as_aux_lemma =>
                  obtain ⟨ai, hli, rfl, hbi, ci⟩ := (H3.below hb).int hlt2
                  have t1 := take_next hli
                  have T1 := Lib.hid t1
                  clear t1
                  generalize inn[t] = y at *
                  cases hg : decide (x.hd.num ∈ inn.take t)
                  · have HGN := Lib.hid hg
                    clear hg
                    by_cases hy : y = x.hd.num
                    · subst hy
                      go_wp2_with fail
                      go_quiet (fail)
                      go_wp2
                      go_roundw
                      case rel => exact ⟨t + 1, hlt2, by go_num, by rw [T1.out]; simp, below_drewN hb _⟩
                      case measure => simp [intOf]; omega
                    · have hy' : (y == x.hd.num) = false := beq_eq_false_iff_ne.2 hy
                      have HY := Lib.hid hy
                      clear hy
                      go_wp2_with fail
                      go_quiet (fail)
                      go_wp2
                      go_roundw
                      case rel =>
                        refine ⟨t + 1, hlt2, by go_num, ?_, below_drewN hb _⟩
                        have h1 : x.hd.num ∉ inn.take t := of_decide_eq_false HGN.out
                        rw [T1.out, decide_eq_false]
                        intro hm
                        rcases List.mem_append.1 hm with hm | hm
                        · exact h1 hm
                        · exact HY.out (List.mem_singleton.1 hm).symm
                      case measure => simp [intOf]; omega
                  · have HGN := Lib.hid hg
                    clear hg
                    go_wp2_with fail
                    go_quiet (fail)
                    go_wp2
                    go_roundw
                    case rel =>
                      refine ⟨t + 1, hlt2, by go_num, ?_, below_drewN hb _⟩
                      have h1 : x.hd.num ∈ inn.take t := of_decide_eq_true HGN.out
                      rw [T1.out, decide_eq_true (List.mem_append_left _ h1)]
                    case measure => simp [intOf]; omega
              · obtain rfl : t = p := by omega
                rw [List.take_of_length_le (by rw [HL3.out]; omega)]
                by_cases hin : x.hd.num ∈ inn
                · as_aux_lemma =>
                    have HIN := Lib.hid hin
                    rw [decide_eq_true hin]
                    clear hin
                    go_wp2_with fail
                    go_roundw
                    case rel => exact ⟨k + 1, hlt, by go_num, by rw [E1.out, if_pos HIN.out, List.append_nil, HK.out], hb⟩
                    case measure => simp [intOf]; omega
                · as_aux_lemma =>
                    have hGK : G[K]? = some x := by
                      have h1 := E2.out hin
                      rw [← HG.out]
                      unfold afterL
                      rw [List.getElem?_append_left (List.getElem?_eq_some_iff.1 h1).1]
                      exact h1
                    obtain ⟨hKl, hKx⟩ := List.getElem?_eq_some_iff.1 hGK
                    obtain ⟨aB, _, rfl, hatB⟩ := hG.at_ hKl
                    rw [hKx] at hatB
                    obtain ⟨hbkB, g0, g1, g2, g3, g4⟩ := hatB.below hb
                    have v1 := fun q => conv_str ((hok.first.below hb).drewN q) x.fc
                    have v2 := fun q => conv_str ((hok.last.below hb).drewN q) x.lc
                    have v3 := conv_str (hok.first.below hb) x.fc
                    have v4 := conv_str (hok.last.below hb) x.lc
                    have HIN := Lib.hid hin
                    rw [decide_eq_false hin]
                    have z0 : decide ((G.length : Int) ≤ (K : Int)) = false := decide_eq_false (by omega)
                    clear hin hGK hKx
                    have hK63 : K ≤ 100 := by omega
                    go_wp2_with fail
                    go_quiet (fail)
                    go_wp2
                    go_roundw
                    case rel => exact ⟨k + 1, hlt, by go_num, by rw [E1.out, if_neg HIN.out, List.length_append, HK.out]; rfl, below_drewN hb _⟩
                    case measure => simp [intOf]; omega
          · obtain rfl : k = n := by omega
            rw [List.take_of_length_le (by rw [HL.out]; omega)]
            have hKk : G.length = (kept hs inn).length + m := by
              rw [← HG.out]
              unfold afterL
              rw [List.length_append, List.length_map, HL2.out]
            have hGj : ∀ j (hj : j < made.length), G[(kept hs inn).length + j]? = some (made[j].at_ lto) := by
              intro j hj
              rw [← HG.out]
              unfold afterL
              rw [List.getElem?_append_right (by omega), show (kept hs inn).length + j - (kept hs inn).length = j from by omega, List.getElem?_map, List.getElem?_eq_getElem hj]
              rfl
            have HGJ := Lib.hid hGj
            have HKK := Lib.hid hKk
            clear hGj hKk
            generalize (kept hs inn).length = K at *
            have hK63 : K ≤ 100 := by have := HKK.out; omega
            go_wp2_with fail
            go_loopw [10, 14] (fun x i wr => ∃ j : Nat, j ≤ m ∧ i = .int .i64 (j : Int) ∧ x = .int .i64 ((K + j : Nat) : Int) ∧ Below w3.heap.size w3 wr) (fun _ i _ => m - (intOf i).toNat)
            case atStart => exact ⟨0, Nat.zero_le _, rfl, rfl, hb⟩
            case round =>
              clear hb
              obtain ⟨j, hj, rfl, rfl, hb⟩ := hrel
              have hKG : K + j ≤ G.length := by have := HKK.out; omega
              by_cases hlt : j < m
              · as_aux_lemma =>
                  obtain ⟨a, hl, rfl, hat, hok⟩ := H2.at_ hlt
                  obtain ⟨hKl, hKx⟩ := List.getElem?_eq_some_iff.1 (HGJ.out j hl)
                  obtain ⟨aB, _, rfl, hatB⟩ := hG.at_ hKl
                  rw [hKx] at hatB
                  clear hKx
                  generalize made[j] = x at *
                  obtain ⟨hbkB, g0, g1, g2, g3, g4⟩ := hatB.below hb
                  obtain ⟨hbk, d0, d1, d2, d3, d4⟩ := hat.below hb
                  have g0' : wr.cell? (aB.add ((K + j) * 5)) = some (.int .i64 x.hd.num) := g0
                  have g1' : wr.cell? ⟨(aB.add ((K + j) * 5)).block, (aB.add ((K + j) * 5)).off + 1, none⟩ = some (.int .i64 lto) := g1
                  have g2' : wr.cell? ⟨(aB.add ((K + j) * 5)).block, (aB.add ((K + j) * 5)).off + 2, none⟩ = some (.slice x.fa x.fn x.fc) := g2
                  have g3' : wr.cell? ⟨(aB.add ((K + j) * 5)).block, (aB.add ((K + j) * 5)).off + 3, none⟩ = some (.slice x.la x.ln x.lc) := g3
                  have g4' : wr.cell? ⟨(aB.add ((K + j) * 5)).block, (aB.add ((K + j) * 5)).off + 4, none⟩ = some (.int .i64 x.hd.len) := g4
                  have v1 := fun q => conv_str ((hok.first.below hb).drewN q) x.fc
                  have v3 := conv_str (hok.first.below hb) x.fc
                  clear g0 g1 g2 g3 g4 hatB hat
                  have EKJ : Hid (((K + j : Nat) : Int) + 1 = ((K + (j + 1) : Nat) : Int)) := Lib.hid (by omega)
                  generalize K + j = KJ at *
                  have z0 : decide ((G.length : Int) ≤ (KJ : Int)) = false := decide_eq_false (by omega)
                  have z1 : KJ ≤ 100 := by omega
                  go_wp2_with fail
                  go_quiet (fail)
                  go_wp2
                  go_roundw
                  case rel => exact ⟨j + 1, hlt, by go_num, by rw [← EKJ.out], below_drewN hb _⟩
                  case measure => simp [intOf]; omega
              · as_aux_lemma =>
                  obtain rfl : j = m := by omega
                  have HE : Hid (K + j = G.length) := Lib.hid HKK.out.symm
                  generalize K + j = KJ at *
                  obtain rfl : KJ = G.length := HE.out
                  go_wp2_with fail
                  refine (awake_any _).mono ?_
                  rintro e w5 ⟨rfl, hb5⟩
                  go_wp2
                  go_ret
                  exact ⟨rfl, later_ (later_ hz hb) hb5⟩
end Go.Proofs.Ytfbollkafcdfhaa
