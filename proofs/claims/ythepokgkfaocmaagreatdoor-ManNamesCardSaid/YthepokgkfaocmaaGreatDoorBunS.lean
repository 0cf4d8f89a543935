/- Texts LawNames in one. No conditions. -/
import Derived.Test.YthepokgkfaocmaaGreatDoorBunR

/-
  The walk of ManNames.
-/
namespace Go.Proofs.YthepokgkfaocmaaGreatDoor
open Go Go.RowKit Go.Shelf

theorem number_zeros {kind : List UInt8} {n : Int} (h : (Mn.fits n && Mn.isKind kind) = true) : Mn.number (Mn.name kind n ++ [48, 48, 48, 48, 48, 48, 48, 48, 48, 48]) kind = none := by
  cases hn : Mn.number (Mn.name kind n ++ [48, 48, 48, 48, 48, 48, 48, 48, 48, 48]) kind with
  | none => rfl
  | some v =>
    have h1 := Mn.number_some hn
    have h2 : Mn.name kind v ≠ [] := by rw [h1]; simp
    have h3 := (Mn.name_len h2).2.2
    have h4 : Mn.name kind n ≠ [] := by rw [Mn.name_digits h]; simp
    have h5 := (Mn.name_len h4).2.1
    rw [h1] at h3
    simp at h3
    omega
theorem number_x {kind : List UInt8} {n : Int} (h : (Mn.fits n && Mn.isKind kind) = true) : Mn.number (Mn.name kind n) [120] = none := by
  unfold Mn.number
  rw [if_neg]
  rw [Mn.name_digits h]
  simp only [Bool.and_eq_true, Mn.isKind, Bool.or_eq_true, beq_iff_eq] at h
  rcases h.2 with h2 | h2 | h2 <;> rw [h2] <;> simp [Lib.hasPrefix, Mn.kLog, Mn.kTab, Mn.kMan, List.isPrefixOf]
theorem number_bounds {s k : List UInt8} {v : Int} (h : Mn.number s k = some v) : -9223372036854775808 ≤ v ∧ v ≤ 9223372036854775807 := by
  unfold Mn.number at h
  split at h
  · split at h
    · rename_i u hu
      split at h
      · injection h with h
        subst h
        cases ha : Lib.atoiAll (s.drop (k.length + 1)) with
        | ok x =>
          rw [ha] at hu
          injection hu with hu
          subst hu
          exact Lib.atoiAll_bounds ha
        | _ => rw [ha] at hu; cases hu
      · cases h
    · cases h
  · cases h

set_option maxRecDepth 100000 in
set_option maxHeartbeats 1000000 in
theorem names_long (s k : ByteArray) (n : Int) (hs : s.size ≤ maxLen) (hk : k.size ≤ maxLen) (hl : 100 < s.size ∨ 100 < k.size) (w : World) (he : Env w) :
    Calls Tryz.prog 4 #[.string s, .string k, .int .i64 n] w fun e w' => e = .returned (.bool true) ∧ Below w.heap.size w w' := by
  have haw := awake_any w he
  unfold maxLen at hs hk
  by_cases h1 : 100 < s.size
  · clear hl
    go_enter Tryz.func4, Tryz.ntmps4
    go_wp2_with fail
    refine haw.mono ?_
    rintro e w1 ⟨rfl, hb⟩
    go_wp2
    go_ret
    exact ⟨rfl, hb⟩
  · have h2 : 100 < k.size := by omega
    have h1' : ((100 : Int) < (s.size : Int)) = False := by simp; omega
    clear hl
    go_enter Tryz.func4, Tryz.ntmps4
    go_wp2_with fail
    refine haw.mono ?_
    rintro e w1 ⟨rfl, hb⟩
    go_wp2
    go_ret
    exact ⟨rfl, hb⟩
set_option maxRecDepth 100000 in
set_option maxHeartbeats 1000000 in
theorem names_bad (s k : ByteArray) (n : Int) (hn : -9223372036854775808 ≤ n ∧ n ≤ 9223372036854775807) (hs : s.size ≤ 100) (hk : k.size ≤ 100) (hbad : (Mn.fits n && Mn.isKind k.data.toList) = false) (w : World) (he : Env w) :
    Calls Tryz.prog 4 #[.string s, .string k, .int .i64 n] w fun e w' => e = .returned (.bool true) ∧ Below w.heap.size w w' := by
  have hnm := name_any k (by omega) n hn w he
  have hno : Mn.name k.data.toList n = [] := by rw [Mn.name, if_neg (by simp [hbad])]
  rw [hno, show str [] = ⟨#[]⟩ from rfl] at hnm
  have hnu := fun w1 (hb : Below w.heap.size w w1) => number_any s k (by omega) (by omega) w1 (he.below hb)
  have hnv := fun v (hv : -9223372036854775808 ≤ v ∧ v ≤ 9223372036854775807) w1 (hb : Below w.heap.size w w1) => name_any k (by omega) v hv w1 (he.below hb)
  have haw := fun w1 (hb : Below w.heap.size w w1) => awake_any w1 (he.below hb)
  have HNU := Lib.hid hnu
  have HNV := Lib.hid hnv
  have HAW := Lib.hid haw
  clear hnu hnv haw hno
  have h1 : ((100 : Int) < (s.size : Int)) = False := by simp; omega
  have h2 : ((100 : Int) < (k.size : Int)) = False := by simp; omega
  have hkind : (k = str Mn.kLog ∨ k = str Mn.kTab ∨ k = str Mn.kMan) ∨ ((k.toList == [108, 111, 103]) = false ∧ (k.toList == [116, 97, 98]) = false ∧ (k.toList == [109, 97, 110]) = false) := by
    by_cases hkd : Mn.isKind k.data.toList = true
    · left
      simp only [Mn.isKind, Bool.or_eq_true, beq_iff_eq] at hkd
      rw [← str_list k]
      rcases hkd with h | h | h <;> rw [h] <;> simp
    · right
      have hd : k.data.toList ≠ Mn.kLog ∧ k.data.toList ≠ Mn.kTab ∧ k.data.toList ≠ Mn.kMan := by simpa [Mn.isKind] using hkd
      rw [ByteArray.toList_eq]
      exact ⟨by rw [beq_eq_false_iff_ne]; exact hd.1, by rw [beq_eq_false_iff_ne]; exact hd.2.1, by rw [beq_eq_false_iff_ne]; exact hd.2.2⟩
  have hrange : (k = str Mn.kLog ∨ k = str Mn.kTab ∨ k = str Mn.kMan) → n < 1 ∨ 1073741824 < n := fun h => by
    have hk2 : Mn.isKind k.data.toList = true := by rcases h with rfl | rfl | rfl <;> decide
    rw [hk2] at hbad
    simp [Mn.fits] at hbad
    omega
  clear hbad
  have HKD := Lib.hid hkind
  have HRG := Lib.hid hrange
  clear hkind hrange
  go_enter Tryz.func4, Tryz.ntmps4
  go_wp2_with fail
  refine hnm.mono ?_
  rintro e w1 ⟨rfl, hb1⟩
  go_upto_region 4 with (fail)
  go_cut [8] (fun g wx => g = .bool false ∧ w1 = wx)
  case first =>
    rcases HKD.out with hk3 | ⟨b1, b2, b3⟩
    · rcases HRG.out hk3 with hn1 | hn1
      · have hn2 : ((1 : Int) ≤ n) = False := by simp; omega
        rcases hk3 with rfl | rfl | rfl
        all_goals
          unfold str
          first | unfold Mn.kLog | unfold Mn.kTab | unfold Mn.kMan
          go_wp2_with fail
          go_meet
          case rel => exact ⟨rfl, rfl⟩
      · have hn2 : ((1 : Int) ≤ n) := by omega
        have hn3 : (n ≤ (1073741824 : Int)) = False := by simp; omega
        rcases hk3 with rfl | rfl | rfl
        all_goals
          unfold str
          first | unfold Mn.kLog | unfold Mn.kTab | unfold Mn.kMan
          go_wp2_with fail
          go_meet
          case rel => exact ⟨rfl, rfl⟩
    · go_wp2_with fail
      go_meet
      case rel => exact ⟨rfl, rfl⟩
  case rest =>
    obtain ⟨rfl, rfl⟩ := hcut
    have hnum := HNU.out w1 hb1
    obtain ⟨o, ho⟩ : ∃ o, o = Mn.number s.data.toList k.data.toList := ⟨_, rfl⟩
    rw [← ho] at hnum
    have HO := Lib.hid ho
    clear ho hnm HKD HRG HNU
    go_wp2_with fail
    refine hnum.mono ?_
    rintro e w2 ⟨rfl, hb2⟩
    have hb02 := later_ hb1 hb2
    cases o with
    | none =>
      unfold numV
      go_wp2_with fail
      refine (HAW.out w2 hb02).mono ?_
      rintro e w3 ⟨rfl, hb3⟩
      have hb03 := later_ hb02 hb3
      go_wp2
      go_ret
      exact ⟨rfl, hb03⟩
    | some v =>
      have hvn := Mn.number_some HO.out.symm
      have hvr := number_bounds HO.out.symm
      have hnv := HNV.out v hvr w2 hb02
      rw [hvn, str_list] at hnv
      have HN2 := Lib.hid hnv
      clear hnv hvn hnum
      unfold numV
      go_wp2_with fail
      refine HN2.out.mono ?_
      rintro e w3 ⟨rfl, hb3⟩
      have hb03 := later_ hb02 hb3
      go_wp2_with fail
      refine (HAW.out w3 hb03).mono ?_
      rintro e w4 ⟨rfl, hb4⟩
      have hb04 := later_ hb03 hb4
      go_wp2
      go_ret
      exact ⟨rfl, hb04⟩

set_option maxRecDepth 100000 in
set_option maxHeartbeats 2000000 in
theorem names_good (s k : ByteArray) (n : Int) (hs : s.size ≤ 100) (hn1 : 1 ≤ n) (hn2 : n ≤ 1073741824) (hk3 : k = str Mn.kLog ∨ k = str Mn.kTab ∨ k = str Mn.kMan) (w : World) (he : Env w) :
    Calls Tryz.prog 4 #[.string s, .string k, .int .i64 n] w fun e w' => e = .returned (.bool true) ∧ Below w.heap.size w w' := by
  have hk : k.size ≤ 100 := by rcases hk3 with rfl | rfl | rfl <;> decide
  have hkd : (Mn.fits n && Mn.isKind k.data.toList) = true := by
    have : Mn.isKind k.data.toList = true := by rcases hk3 with rfl | rfl | rfl <;> decide
    rw [this]
    simp [Mn.fits]
    omega
  have hnm := name_any k (by omega) n (by omega) w he
  have hdig := Mn.name_digits hkd
  have hne : Mn.name k.data.toList n ≠ [] := by rw [hdig]; simp
  obtain ⟨hk3l, hl1, hl2⟩ := Mn.name_len hne
  have hnum1 := Mn.number_name hkd
  have hnum2 := number_zeros hkd
  have hnum3 := number_x hkd
  have hnu := fun (u : ByteArray) (hu : u.size ≤ 1000) w1 (hb : Below w.heap.size w w1) => number_any u k (by omega) (by omega) w1 (he.below hb)
  have hnx := fun (u : ByteArray) (hu : u.size ≤ 1000) w1 (hb : Below w.heap.size w w1) => number_any u ⟨#[120]⟩ (by omega) (by decide) w1 (he.below hb)
  have hnv := fun v (hv : -9223372036854775808 ≤ v ∧ v ≤ 9223372036854775807) w1 (hb : Below w.heap.size w w1) => name_any k (by omega) v hv w1 (he.below hb)
  have haw := fun w1 (hb : Below w.heap.size w w1) => awake_any w1 (he.below hb)
  have h1 : ((100 : Int) < (s.size : Int)) = False := by simp; omega
  obtain ⟨t, ht⟩ : ∃ t, t = str (Mn.name k.data.toList n) := ⟨_, rfl⟩
  have htl : t.data.toList = Mn.name k.data.toList n := by rw [ht, list_str]
  have hts : t.size = (Mn.name k.data.toList n).length := by rw [ht, str_size]
  rw [← ht] at hnm
  have hext : (t.extract 0 4).toList = (k ++ ⟨#[46]⟩).toList := by
    have e1 : (t.extract 0 4).data.toList = t.data.toList.take 4 := by simp
    rw [ByteArray.toList_eq, ByteArray.toList_eq, e1, htl, hdig]
    have e2 : (k ++ ⟨#[46]⟩ : ByteArray).data.toList = k.data.toList ++ [46] := by simp
    rw [e2, List.take_append_of_le_length (by simp only [List.length_append, List.length_singleton]; omega), List.take_of_length_le (by simp only [List.length_append, List.length_singleton]; omega)]
  have hemp : t.toList.isEmpty = false := by
    rw [ByteArray.toList_eq, htl]
    simpa using hne
  have HNU := Lib.hid hnu
  have HNX := Lib.hid hnx
  have HNV := Lib.hid hnv
  have HAW := Lib.hid haw
  have HT := Lib.hid htl
  have H1 := Lib.hid hnum1
  have H2 := Lib.hid hnum2
  have H3 := Lib.hid hnum3
  have HEX := Lib.hid hext
  have HEM := Lib.hid hemp
  clear hnu hnx hnv haw htl hnum1 hnum2 hnum3 hext hemp ht hne hdig hkd
  have HK := Lib.hid hk3
  have hts4 : 4 ≤ t.size ∧ t.size ≤ 14 := by omega
  clear hts hl1 hl2 hk3l
  go_enter Tryz.func4, Tryz.ntmps4
  go_wp2_with fail
  refine hnm.mono ?_
  rintro e w1 ⟨rfl, hb1⟩
  go_upto_region 4 with (fail)
  go_cut [8] (fun g wx => g = .bool true ∧ w1 = wx)
  case first =>
    have hk3 := HK.out
    have q2 : (1 : Int) ≤ n := hn1
    have q3 : n ≤ (1073741824 : Int) := hn2
    clear HNU HNX HNV HAW HT H1 H2 H3 HEX HEM
    rcases hk3 with rfl | rfl | rfl
    all_goals
      unfold str
      first | unfold Mn.kLog | unfold Mn.kTab | unfold Mn.kMan
      go_wp2_with fail
      go_meet
      case rel => exact ⟨rfl, rfl⟩
  case rest =>
    obtain ⟨rfl, rfl⟩ := hcut
    have hnum := HNU.out s (by omega) w1 hb1
    obtain ⟨o, ho⟩ : ∃ o, o = Mn.number s.data.toList k.data.toList := ⟨_, rfl⟩
    rw [← ho] at hnum
    have HO := Lib.hid ho
    have hemp := HEM.out
    clear ho hnm HK hk3
    go_wp2_with fail
    refine hnum.mono ?_
    rintro e w2 ⟨rfl, hb2⟩
    have hb02 := later_ hb1 hb2
    clear hnum
    cases o with
    | none =>
      unfold numV
      have hq1 := HNU.out t (by omega) w2 hb02
      rw [HT.out, H1.out, numV] at hq1
      have hemp := HEM.out
      go_wp2_with fail
      refine hq1.mono ?_
      rintro e w3 ⟨rfl, hbA⟩
      have hB1 := later_ hb02 hbA
      have hq2 := HNU.out (t ++ ⟨#[48, 48, 48, 48, 48, 48, 48, 48, 48, 48]⟩) (by rw [ByteArray.size_append]; have : (⟨#[48, 48, 48, 48, 48, 48, 48, 48, 48, 48]⟩ : ByteArray).size = 10 := rfl; omega) w3 hB1
      have hap : (t ++ ⟨#[48, 48, 48, 48, 48, 48, 48, 48, 48, 48]⟩ : ByteArray).data.toList = Mn.name k.data.toList n ++ [48, 48, 48, 48, 48, 48, 48, 48, 48, 48] := by rw [← HT.out]; simp
      rw [hap, H2.out, numV] at hq2
      clear hq1 hap hbA
      go_wp2_with fail
      refine hq2.mono ?_
      rintro e w4 ⟨rfl, hbB⟩
      have hB2 := later_ hB1 hbB
      have hq3 := HNX.out t (by omega) w4 hB2
      rw [HT.out, H3.out, numV] at hq3
      clear hq2 hbB
      go_wp2_with fail
      refine hq3.mono ?_
      rintro e w5 ⟨rfl, hbC⟩
      have hB3 := later_ hB2 hbC
      have hext := HEX.out
      have haw := HAW.out w5 hB3
      clear hq3 hbC
      go_wp2_with fail
      refine haw.mono ?_
      rintro e w6 ⟨rfl, hbD⟩
      have hB4 := later_ hB3 hbD
      clear haw hbD
      go_wp2
      go_ret
      exact ⟨rfl, hB4⟩
    | some v =>
      have hvn := Mn.number_some HO.out.symm
      have hvr := number_bounds HO.out.symm
      have hnv := HNV.out v hvr w2 hb02
      rw [hvn, str_list] at hnv
      have HN2 := Lib.hid hnv
      clear hnv hvn
      unfold numV
      go_wp2_with fail
      refine HN2.out.mono ?_
      rintro e w3 ⟨rfl, hb3⟩
      have hb03 := later_ hb02 hb3
      have hq1 := HNU.out t (by omega) w3 hb03
      rw [HT.out, H1.out, numV] at hq1
      have hemp := HEM.out
      go_wp2_with fail
      refine hq1.mono ?_
      rintro e w4 ⟨rfl, hbA⟩
      have hB1 := later_ hb03 hbA
      have hq2 := HNU.out (t ++ ⟨#[48, 48, 48, 48, 48, 48, 48, 48, 48, 48]⟩) (by rw [ByteArray.size_append]; have : (⟨#[48, 48, 48, 48, 48, 48, 48, 48, 48, 48]⟩ : ByteArray).size = 10 := rfl; omega) w4 hB1
      have hap : (t ++ ⟨#[48, 48, 48, 48, 48, 48, 48, 48, 48, 48]⟩ : ByteArray).data.toList = Mn.name k.data.toList n ++ [48, 48, 48, 48, 48, 48, 48, 48, 48, 48] := by rw [← HT.out]; simp
      rw [hap, H2.out, numV] at hq2
      clear hq1 hap hbA
      go_wp2_with fail
      refine hq2.mono ?_
      rintro e w5 ⟨rfl, hbB⟩
      have hB2 := later_ hB1 hbB
      have hq3 := HNX.out t (by omega) w5 hB2
      rw [HT.out, H3.out, numV] at hq3
      clear hq2 hbB
      go_wp2_with fail
      refine hq3.mono ?_
      rintro e w6 ⟨rfl, hbC⟩
      have hB3 := later_ hB2 hbC
      have hext := HEX.out
      have haw := HAW.out w6 hB3
      clear hq3 hbC
      go_wp2_with fail
      refine haw.mono ?_
      rintro e w7 ⟨rfl, hbD⟩
      have hB4 := later_ hB3 hbD
      clear haw hbD
      go_wp2
      go_ret
      exact ⟨rfl, hB4⟩
theorem manNames_walk (s k : ByteArray) (n : Int) (hs : s.size ≤ maxLen) (hk : k.size ≤ maxLen) (hn : (Lit.int .i64 n).wf = true) (w : World) (he : Env w) :
    Calls Tryz.prog 4 #[.string s, .string k, .int .i64 n] w fun e w' => e = .returned (.bool true) ∧ Below w.heap.size w w' := by
  have hn2 := Joins.in64_of_wf hn
  unfold Joins.In64 at hn2
  by_cases hl : 100 < s.size ∨ 100 < k.size
  · exact names_long s k n hs hk hl w he
  · cases hg : (Mn.fits n && Mn.isKind k.data.toList) with
    | false => exact names_bad s k n hn2 (by omega) (by omega) hg w he
    | true =>
      have h1 : 1 ≤ n ∧ n ≤ 1073741824 := by simp [Mn.fits] at hg; omega
      refine names_good s k n (by omega) h1.1 h1.2 ?_ w he
      simp only [Bool.and_eq_true, Mn.isKind, Bool.or_eq_true, beq_iff_eq] at hg
      rw [← str_list k]
      rcases hg.2 with h | h | h <;> rw [h] <;> simp
end Go.Proofs.YthepokgkfaocmaaGreatDoor
