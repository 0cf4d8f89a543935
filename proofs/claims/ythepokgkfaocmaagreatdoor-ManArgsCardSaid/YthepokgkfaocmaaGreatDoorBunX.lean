/- Texts EditI, Del in one. No conditions. -/
import Derived.Test.YthepokgkfaocmaaGreatDoorBunU
import Derived.Deep.RegionLaw

/-
  The walk of edit.may, for any changes.
-/
namespace Go.Proofs.YthepokgkfaocmaaGreatDoor
open Go Go.RowKit

theorem any_not {α : Type} (P : α → Bool) (l : List α) : l.any (fun f => !P f) = !l.all P := by
  induction l with
  | nil => rfl
  | cons a r ih => simp only [List.any_cons, List.all_cons, ih, Bool.not_and]
set_option maxRecDepth 100000 in
set_option maxHeartbeats 2000000 in
theorem may_gen (e : Ed) (D : Option Addr) (m d : Nat) (A : Option Addr) (n c : Nat) (w : World) (hm : m ≤ 1000000) (hn : n ≤ 1000000) (hrd : Row w.heap.size w D m 1 (icells e.drop)) (hr : Row w.heap.size w A n 2 (fcells e.add)) :
    Calls Tryz.prog 72 #[e.val D m d A n c] w fun x w' => x = .returned (.bool e.may) ∧ Below w.heap.size w w' := by
  obtain ⟨ds, fs, g, f, ce, a, l⟩ := e
  obtain ⟨b, hb⟩ : ∃ b, b = Ed.may ⟨ds, fs, g, f, ce, a, l⟩ := ⟨_, rfl⟩
  have hfl := hr.flen
  have hdl := hrd.ilen
  rw [← hb]
  unfold Ed.may at hb
  simp only at hb hr hfl hrd hdl
  rw [four_bigs, hfl, hdl] at hb
  unfold Ed.val
  simp only
  by_cases h1 : m ≤ 40
  · by_cases h2 : n ≤ 40
    · by_cases h3 : 0 ≤ g
      · by_cases h4 : g ≤ 1073741824
        · have hrow := u64_row (w.alloc (.cells #[.slice D m d, .slice A n c, .int .i64 g, .int .u64 (f : Int), .int .u64 (ce : Int), .int .u64 (a : Int), .int .u64 (l : Int)] 39)) 29 #[.int .u64 (f : Int), .int .u64 (ce : Int), .int .u64 (a : Int), .int .u64 (l : Int)] [f, ce, a, l] 4 rfl rfl
          have hmeta := meta_any _ 4 4 [f, ce, a, l] _ (by omega) hrow
          have hbl := ((Below.refl w.heap.size w).alloc (Nat.le_refl _) (.cells #[.slice D m d, .slice A n c, .int .i64 g, .int .u64 (f : Int), .int .u64 (ce : Int), .int .u64 (a : Int), .int .u64 (l : Int)] 39)).alloc (by simp) (.cells #[.int .u64 (f : Int), .int .u64 (ce : Int), .int .u64 (a : Int), .int .u64 (l : Int)] 29)
          have hih := ihas_may D m d ds _ hm ((hrd.below hbl).up hbl.size)
          have hfh := fhas_may A n c fs _ hn ((hr.below hbl).up hbl.size)
          rw [any_not] at hih hfh
          have hbb : b = (!bigs [f, ce, a, l] && ds.all isNum && fs.all isFile) := by rw [hb]; simp [h1, h2, h3, h4]
          clear hb hrow hrd hr
          simp only [World.size_alloc] at hmeta
          cases h5 : bigs [f, ce, a, l] with
          | true =>
            rw [h5] at hbb hmeta
            have HB := Lib.hid hbb
            clear hbb h5 hih hfh
            simp only [Bool.not_true] at hmeta
            go_enter Tryz.func72, Tryz.ntmps72
            go_wp2_with fail
            refine hmeta.mono ?_
            rintro e w1 ⟨rfl, rfl⟩
            clear hmeta
            go_wp2
            go_ret
            exact ⟨ret_b (HB.out.trans rfl).symm, hbl⟩
          | false =>
            rw [h5] at hbb hmeta
            cases h6 : ds.all isNum with
            | false =>
              rw [h6] at hbb hih
              have HB := Lib.hid hbb
              clear hbb h5 h6 hfh
              simp only [Bool.not_false] at hmeta hih
              go_enter Tryz.func72, Tryz.ntmps72
              go_wp2_with fail
              refine hmeta.mono ?_
              rintro e w1 ⟨rfl, rfl⟩
              clear hmeta
              go_wp2_with fail
              refine hih.mono ?_
              rintro e w1 ⟨rfl, rfl⟩
              clear hih
              go_wp2
              go_ret
              exact ⟨ret_b (HB.out.trans rfl).symm, hbl⟩
            | true =>
              rw [h6] at hbb hih
              generalize fs.all isFile = y at *
              have HB := Lib.hid hbb
              clear hbb h5 h6
              simp only [Bool.not_true] at hih
              simp only [Bool.not_false] at hmeta
              go_enter Tryz.func72, Tryz.ntmps72
              go_wp2_with fail
              refine hmeta.mono ?_
              rintro e w1 ⟨rfl, rfl⟩
              clear hmeta
              go_wp2_with fail
              refine hih.mono ?_
              rintro e w1 ⟨rfl, rfl⟩
              clear hih
              go_wp2_with fail
              refine hfh.mono ?_
              rintro e w1 ⟨rfl, hb1⟩
              have hbz := later_ hbl hb1
              clear hfh
              cases y
              all_goals
                go_wp2
                go_ret
                exact ⟨ret_b (HB.out.trans rfl).symm, hbz⟩
        · have HB := Lib.hid (hb.trans (show _ = false by simp [h4]))
          clear hb
          go_enter Tryz.func72, Tryz.ntmps72
          go_wp2
          go_ret
          exact ⟨ret_b HB.out.symm, (Below.refl _ _).alloc (Nat.le_refl _) _⟩
      · have HB := Lib.hid (hb.trans (show _ = false by simp [h3]))
        clear hb
        go_enter Tryz.func72, Tryz.ntmps72
        go_wp2
        go_ret
        exact ⟨ret_b HB.out.symm, (Below.refl _ _).alloc (Nat.le_refl _) _⟩
    · have HB := Lib.hid (hb.trans (show _ = false by simp [h2]))
      clear hb
      go_enter Tryz.func72, Tryz.ntmps72
      go_wp2
      go_ret
      exact ⟨ret_b HB.out.symm, (Below.refl _ _).alloc (Nat.le_refl _) _⟩
  · have HB := Lib.hid (hb.trans (show _ = false by simp [h1]))
    clear hb
    go_enter Tryz.func72, Tryz.ntmps72
    go_wp2
    go_ret
    exact ⟨ret_b HB.out.symm, (Below.refl _ _).alloc (Nat.le_refl _) _⟩
end Go.Proofs.YthepokgkfaocmaaGreatDoor

/-
  The walk of slices.Delete at []api.File, of one file.
-/
namespace Go.Proofs.YthepokgkfaocmaaGreatDoor
open Go Go.RowKit
/-- Many cells of a block are stored. -/
theorem BoxO.stores {e : TypeId} {g : Nat} : ∀ (vs : List Value) (o : Nat) (w : World) (xs : List Value), BoxO w e g xs → o + vs.length ≤ xs.length → BoxO (w.setCells g o vs) e g (xs.take o ++ (vs ++ xs.drop (o + vs.length)))
  | [], o, w, xs, h, _ => by simpa [World.setCells] using h
  | v :: r, o, w, xs, h, ho => by
    simp only [List.length_cons] at ho
    have h1 := BoxO.stores r (o + 1) (w.setCell ⟨g, o, none⟩ v) (xs.set o v) (h.store o v) (by simp; omega)
    have e1 : (xs.set o v).take (o + 1) = xs.take o ++ [v] := by
      rw [List.take_succ_eq_append_getElem (by simp; omega), List.take_set_of_le (Nat.le_refl _)]
      simp
    have e2 : (xs.set o v).drop (o + 1 + r.length) = xs.drop (o + (r.length + 1)) := by
      rw [List.drop_set, if_pos (by omega), show o + 1 + r.length = o + (r.length + 1) by omega]
    rw [e1, e2, List.append_assoc] at h1
    simpa [World.setCells] using h1
theorem chg_sets (g : Nat) : ∀ (vs : List Value) (o : Nat) (w w' : World), Chg [g] w w' → Chg [g] w (w'.setCells g o vs)
  | [], _, _, _, h => h
  | v :: r, o, w, w', h => chg_sets g r (o + 1) w _ (h.setCell v (.inl (by simp)))
theorem run_clear_file (w : World) (ty : TypeId) (g o c : Nat) (hc : ∀ j, j < 2 → (w.cell? ⟨g, o + j, none⟩).isSome = true) (hf : ∀ j, j < 2 → w.frozen? ⟨g, o + j, none⟩ = false) :
    (Builtin.clear_ #[28] ty #[.slice (some ⟨g, o, none⟩) 1 c]).run Tryz.prog w = .ok (.tuple #[]) (w.setCells g o [.int .i64 0, .int .i64 0]) := by
  have hst := run_storeCells_cells (P := Tryz.prog) g o [.int .i64 0, .int .i64 0] 0 w (by simpa using hc) (by simpa using hf) (by intro v hv; simp at hv; subst hv; rfl)
  simp only [Nat.add_zero] at hst
  have hz : (zeroValue 114).run Tryz.prog w = .ok (.agg #[.int .i64 0, .int .i64 0]) w := by kernel_rfl
  have hzc : (Builtin.zeroCells (Value.agg #[.int .i64 0, .int .i64 0]).cells 1).toList = [.int .i64 0, .int .i64 0] := by kernel_rfl
  simp [Builtin.clear_, run_underlying Tryz.underlying28, hz, hzc, hst]
theorem info_file : (Tryz.prog.info? 114).map (fun i => (i.zero, i.size, i.bytes)) = some (some (.agg #[.int .i64 0, .int .i64 0]), 2, 16) := by kernel_rfl
set_option maxRecDepth 100000 in
set_option maxHeartbeats 2000000 in
theorem fdel_any (base g n cap i : Nat) (fs : List (Int × Int)) (w : World) (ho : w.ownsRow base 114 2 (.slice (some ⟨g, 0, none⟩) n cap) n (fcells fs)) (hi : i < n) :
    Calls Tryz.prog 76 #[.slice (some ⟨g, 0, none⟩) n cap, .int .i64 (i : Int), .int .i64 ((i : Int) + 1)] w fun e w' => e = .returned (.slice (some ⟨g, 0, none⟩) (n - 1) cap) ∧
      w'.ownsRow base 114 2 (.slice (some ⟨g, 0, none⟩) (n - 1) cap) (n - 1) (fcells (fs.eraseIdx i)) ∧ Chg [g] w w' := by
  obtain ⟨i0, hi0, hz0, hz1, hz2⟩ := info_parts info_file
  have hxl := ho.1
  rw [fcells_len] at hxl
  rcases ho.2 with ⟨_, h0⟩ | ⟨g', cap', cur, hv, hbg, hheap, hn, hcm, hcs, htk⟩
  · omega
  injection hv with hv1 hv2 hv3
  injection hv1 with hv1
  injection hv1 with hv1
  subst hv1 hv3
  clear hv2
  have hB : BoxO w 114 g cur.toList := by unfold BoxO; simpa using hheap
  have hcl : cur.toList.length = cap * 2 := by simpa using hcs
  obtain ⟨k, hk⟩ : ∃ k, n - (i + 1) = k := ⟨_, rfl⟩
  have hgetc : ∀ j, j < n * 2 → w.cell? ⟨g, j, none⟩ = (fcells fs)[j]? := fun j hj => by
    rw [hB.cell, ← htk, List.getElem?_take, if_pos hj]
  obtain ⟨news, hnews⟩ : ∃ news, news = fcells (fs.drop (i + 1)) := ⟨_, rfl⟩
  have hnl : news.length = k * 2 := by rw [hnews, fcells_len, List.length_drop]; omega
  have hnd : news = (fcells fs).drop ((i + 1) * 2) := by rw [hnews, fcells_drop]
  obtain ⟨A, hA, hsrc⟩ : ∃ A : Addr, (if cap = i + 1 then some (⟨g, 0, none⟩ : Addr) else some ⟨g, (i + 1) * 2, none⟩) = some A ∧ Hid (∀ j u, news[j]? = some u → w.drew.cell? (A.add j) = some u) := by
    by_cases h : cap = i + 1
    · refine ⟨⟨g, 0, none⟩, by simp [h], fun j u hu => ?_⟩
      have h0 : news.length = 0 := by rw [hnl]; omega
      rw [List.length_eq_zero_iff.1 h0] at hu
      simp at hu
    · refine ⟨⟨g, (i + 1) * 2, none⟩, by simp [h], fun j u hu => ?_⟩
      have hj : j < k * 2 := by have := (List.getElem?_eq_some_iff.1 hu).1; omega
      rw [Addr.add_lit, show w.drew.cell? ⟨g, (i + 1) * 2 + j, none⟩ = w.cell? ⟨g, (i + 1) * 2 + j, none⟩ from rfl, hgetc _ (by omega), ← hu, hnd, List.getElem?_drop]
  have s1 : Hid (news.length = k * 2) := hnl
  have s2 : Hid (∀ u ∈ news, u.oneCell' = true) := by rw [hnews]; exact fcells_one _
  have s3 : Hid (∀ j, j < news.length → (w.drew.cell? ⟨g, 0 + i * 2 + j, none⟩).isSome = true ∧ w.drew.frozen? ⟨g, 0 + i * 2 + j, none⟩ = false) := by
    intro j hj
    rw [hnl] at hj
    refine ⟨?_, hB.free _⟩
    rw [show w.drew.cell? ⟨g, 0 + i * 2 + j, none⟩ = w.cell? ⟨g, 0 + i * 2 + j, none⟩ from rfl, hB.cell, List.getElem?_eq_getElem (by omega)]
    rfl
  obtain ⟨W1, hW1⟩ : ∃ W1, W1 = w.drew.setCells g (0 + i * 2) news := ⟨_, rfl⟩
  have hB1 : BoxO W1 114 g (cur.toList.take (i * 2) ++ (news ++ cur.toList.drop (i * 2 + news.length))) := by
    rw [hW1, Nat.zero_add]
    exact BoxO.stores news (i * 2) w.drew _ hB.drew (by omega)
  have hC1 : Chg [g] w W1 := by
    rw [hW1]
    exact chg_sets g news _ w _ (Chg.refl _ _).drew
  have hcell : ∀ j, j < 2 → (W1.cell? ⟨g, (i + k) * 2 + j, none⟩).isSome = true := fun j hj => by
    rw [hB1.cell, List.getElem?_eq_getElem (by simp only [List.length_append, List.length_take, List.length_drop]; omega)]
    rfl
  have hclr := fun ty c => run_clear_file W1 ty g ((i + k) * 2) c hcell (fun j hj => hB1.free _)
  have hB2 := BoxO.stores [.int .i64 0, .int .i64 0] ((i + k) * 2) W1 _ hB1 (by simp only [List.length_append, List.length_take, List.length_drop, List.length_cons, List.length_nil]; omega)
  have hC2 := chg_sets g [.int .i64 0, .int .i64 0] ((i + k) * 2) w _ hC1
  obtain ⟨W2, hW2⟩ : ∃ W2, W2 = W1.setCells g ((i + k) * 2) [.int .i64 0, .int .i64 0] := ⟨_, rfl⟩
  rw [← hW2] at hB2 hC2
  simp only [← hW2] at hclr
  have hfin : W2.ownsRow base 114 2 (.slice (some ⟨g, 0, none⟩) (i + k) cap) (i + k) (fcells (fs.eraseIdx i)) := by
    refine ⟨by rw [fcells_len, List.length_eraseIdx_of_lt (by omega)]; omega, .inr ⟨g, cap, _, rfl, hbg, hB2, by omega, hcm, ?_, ?_⟩⟩
    · simp only [List.size_toArray, List.length_append, List.length_take, List.length_drop, List.length_cons, List.length_nil]
      omega
    · have e1 : fcells (fs.eraseIdx i) = (fcells fs).take (i * 2) ++ news := by
        rw [List.eraseIdx_eq_take_drop_succ, fcells_app, fcells_take, hnews]
      have e2 : (fcells fs).take (i * 2) = cur.toList.take (i * 2) := by
        rw [← htk, List.take_take, Nat.min_eq_left (by omega)]
      rw [e1, e2, List.take_append_of_le_length (by simp only [List.length_append, List.length_take, List.length_drop]; omega), List.take_take, Nat.min_eq_left (by omega), ← List.append_assoc,
        List.take_append_of_le_length (by simp only [List.length_append, List.length_take]; omega), List.take_of_length_le (by simp only [List.length_append, List.length_take]; omega)]
  have hik : i + k = n - 1 := by omega
  have HF : Hid (W2.ownsRow base 114 2 (.slice (some ⟨g, 0, none⟩) (n - 1) cap) (n - 1) (fcells (fs.eraseIdx i))) := by rw [← hik]; exact hfin
  have HIK := Lib.hid hik
  have HW := Lib.hid hW1
  have e1 : ((i : Int) == (i : Int) + 1) = false := by simp; omega
  have hic : i ≤ cap := by omega
  have hic1 : i + 1 ≤ cap := by omega
  have hji : 0 ≤ (i : Int) + 1 ∧ (i : Int) + 1 ≤ (n : Int) := by omega
  have hroom : i + k ≤ cap := by omega
  have hkn : i + k ≤ n := by omega
  have hn1 : n - (i + k) = 1 := by omega
  have hnc : (n : Int) ≤ (cap : Int) := by omega
  unfold maxLen at hcm
  clear ho hheap hB hcl hgetc hnews hnl hnd hB1 hC1 hcell hB2 hW2 hfin hik hW1 htk hcs hxl
  go_enter Tryz.func76, Tryz.ntmps76
  go_wp2_with fail
  go_region_law (refine step_append_room rfl (.tmp 22) (.tmp 25) 28 rfl 114 i0 2 Tryz.underlying28 hi0 hz1 g 0 i cap (by simp [Act.eval, Act.put]) A k (cap - (i + 1)) news (by simp [Act.eval, Act.put]) s1.out hsrc.out s2.out hroom s3.out ?_; rw [← HW.out])
  go_wp2_with fail
  go_ret
  exact ⟨congrArg (fun x => Ending.returned (Value.slice (some ⟨g, 0, none⟩) x cap)) HIK.out, HF.out, hC2⟩
end Go.Proofs.YthepokgkfaocmaaGreatDoor
