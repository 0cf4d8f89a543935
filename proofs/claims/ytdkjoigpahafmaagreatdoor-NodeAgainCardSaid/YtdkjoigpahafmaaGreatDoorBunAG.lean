/- Texts EditI, Del, StateC, StateD, StateE, StateF in one. No conditions. -/
import Derived.Test.YtdkjoigpahafmaaGreatDoorBunAF
import Derived.Deep.RegionLaw
import Derived.Test.YtdkjoigpahafmaaGreatDoorBunAA
import Derived.Shelf.Spec.SlicesInsert
import Derived.Lib.AppendZerosOnto
import Derived.Lib.AppendZeros
import Derived.Lib.Overlaps
import Derived.Laws.Externs
import Derived.Laws.IdiomCopy

set_option linter.unusedSimpArgs false
set_option linter.unusedVariables false
set_option maxRecDepth 100000
set_option maxHeartbeats 16000000
namespace Go.Proofs.YtdkjoigpahafmaaGreatDoor
section
open Go Go.RowKit
theorem any_not {α : Type} (P : α → Bool) (l : List α) : l.any (fun f => !P f) = !l.all P := by
 induction l with
 | nil => rfl
 | cons a r ih => simp only [List.any_cons, List.all_cons, ih, Bool.not_and]
theorem may_gen (e : Ed) (D : Option Addr) (m d : Nat) (A : Option Addr) (n c : Nat) (w : World) (hm : m ≤ 1000000) (hn : n ≤ 1000000) (hrd : Row w.heap.size w D m 1 (icells e.drop)) (hr : Row w.heap.size w A n 2 (fcells e.add)) :
  Calls Tryz.prog 236 #[e.val D m d A n c] w fun x w' => x = .returned (.bool e.may) ∧ Below w.heap.size w w' := by
 obtain ⟨ds, fs, g, f, ce, a, l⟩ := e
 obtain ⟨b, hb⟩ : ∃ b, b = Ed.may ⟨ds, fs, g, f, ce, a, l⟩ := ⟨_, rfl⟩
 have hfl := hr.flen
 have hdl := hrd.ilen
 rw [← hb]
 unfold Ed.may at hb
 simp only at hb hr hfl hrd hdl
 rw [four_bigs, hfl, hdl] at hb
 unfold Ed.val
 simp only
 by_cases h1 : m ≤ 40
 ·by_cases h2 : n ≤ 40
  ·by_cases h3 : 0 ≤ g
   ·by_cases h4 : g ≤ 1073741824
    ·have hrow := u64_row (w.alloc (.cells #[.slice D m d, .slice A n c, .int .i64 g, .int .u64 (f : Int), .int .u64 (ce : Int), .int .u64 (a : Int), .int .u64 (l : Int)] 163)) 25 #[.int .u64 (f : Int), .int .u64 (ce : Int), .int .u64 (a : Int), .int .u64 (l : Int)] [f, ce, a, l] 4 rfl rfl
     have hmeta := meta_any _ 4 4 [f, ce, a, l] _ (by omega) hrow
     have hbl := ((Below.refl w.heap.size w).alloc (Nat.le_refl _) (.cells #[.slice D m d, .slice A n c, .int .i64 g, .int .u64 (f : Int), .int .u64 (ce : Int), .int .u64 (a : Int), .int .u64 (l : Int)] 163)).alloc (by simp) (.cells #[.int .u64 (f : Int), .int .u64 (ce : Int), .int .u64 (a : Int), .int .u64 (l : Int)] 25)
     have hih := ihas_may D m d ds _ hm ((hrd.below hbl).up hbl.size)
     have hfh := fhas_may A n c fs _ hn ((hr.below hbl).up hbl.size)
     rw [any_not] at hih hfh
     have hbb : b = (!bigs [f, ce, a, l] && ds.all isNum && fs.all isFile) := by rw [hb]; simp [h1, h2, h3, h4]
     clear hb hrow hrd hr
     simp only [World.size_alloc] at hmeta
     cases h5 : bigs [f, ce, a, l] with
     | true =>
      rw [h5] at hbb hmeta
      have HB := Lib.hid hbb
      clear hbb h5 hih hfh
      simp only [Bool.not_true] at hmeta
      go_enter Tryz.func236, Tryz.ntmps236
      go_wp2_with fail
      refine hmeta.mono ?_
      rintro e w1 ⟨rfl, rfl⟩
      clear hmeta
      go_wp2
      go_ret
      exact ⟨ret_b (HB.out.trans rfl).symm, hbl⟩
     | false =>
      rw [h5] at hbb hmeta
      cases h6 : ds.all isNum with
      | false =>
       rw [h6] at hbb hih
       have HB := Lib.hid hbb
       clear hbb h5 h6 hfh
       simp only [Bool.not_false] at hmeta hih
       go_enter Tryz.func236, Tryz.ntmps236
       go_wp2_with fail
       refine hmeta.mono ?_
       rintro e w1 ⟨rfl, rfl⟩
       clear hmeta
       go_wp2_with fail
       refine hih.mono ?_
       rintro e w1 ⟨rfl, rfl⟩
       clear hih
       go_wp2
       go_ret
       exact ⟨ret_b (HB.out.trans rfl).symm, hbl⟩
      | true =>
       rw [h6] at hbb hih
       generalize fs.all isFile = y at *
       have HB := Lib.hid hbb
       clear hbb h5 h6
       simp only [Bool.not_true] at hih
       simp only [Bool.not_false] at hmeta
       go_enter Tryz.func236, Tryz.ntmps236
       go_wp2_with fail
       refine hmeta.mono ?_
       rintro e w1 ⟨rfl, rfl⟩
       clear hmeta
       go_wp2_with fail
       refine hih.mono ?_
       rintro e w1 ⟨rfl, rfl⟩
       clear hih
       go_wp2_with fail
       refine hfh.mono ?_
       rintro e w1 ⟨rfl, hb1⟩
       have hbz := later_ hbl hb1
       clear hfh
       cases y
       all_goals
        go_wp2
        go_ret
        exact ⟨ret_b (HB.out.trans rfl).symm, hbz⟩
    ·have HB := Lib.hid (hb.trans (show _ = false by simp [h4]))
     clear hb
     go_enter Tryz.func236, Tryz.ntmps236
     go_wp2
     go_ret
     exact ⟨ret_b HB.out.symm, (Below.refl _ _).alloc (Nat.le_refl _) _⟩
   ·have HB := Lib.hid (hb.trans (show _ = false by simp [h3]))
    clear hb
    go_enter Tryz.func236, Tryz.ntmps236
    go_wp2
    go_ret
    exact ⟨ret_b HB.out.symm, (Below.refl _ _).alloc (Nat.le_refl _) _⟩
  ·have HB := Lib.hid (hb.trans (show _ = false by simp [h2]))
   clear hb
   go_enter Tryz.func236, Tryz.ntmps236
   go_wp2
   go_ret
   exact ⟨ret_b HB.out.symm, (Below.refl _ _).alloc (Nat.le_refl _) _⟩
 ·have HB := Lib.hid (hb.trans (show _ = false by simp [h1]))
  clear hb
  go_enter Tryz.func236, Tryz.ntmps236
  go_wp2
  go_ret
  exact ⟨ret_b HB.out.symm, (Below.refl _ _).alloc (Nat.le_refl _) _⟩
end
section
open Go Go.RowKit
theorem BoxO.stores {e : TypeId} {g : Nat} : ∀ (vs : List Value) (o : Nat) (w : World) (xs : List Value), BoxO w e g xs → o + vs.length ≤ xs.length → BoxO (w.setCells g o vs) e g (xs.take o ++ (vs ++ xs.drop (o + vs.length)))
 | [], o, w, xs, h, _ => by simpa [World.setCells] using h
 | v :: r, o, w, xs, h, ho => by
  simp only [List.length_cons] at ho
  have h1 := BoxO.stores r (o + 1) (w.setCell ⟨g, o, none⟩ v) (xs.set o v) (h.store o v) (by simp; omega)
  have e1 : (xs.set o v).take (o + 1) = xs.take o ++ [v] := by
   rw [List.take_succ_eq_append_getElem (by simp; omega), List.take_set_of_le (Nat.le_refl _)]
   simp
  have e2 : (xs.set o v).drop (o + 1 + r.length) = xs.drop (o + (r.length + 1)) := by
   rw [List.drop_set, if_pos (by omega), show o + 1 + r.length = o + (r.length + 1) by omega]
  rw [e1, e2, List.append_assoc] at h1
  simpa [World.setCells] using h1
theorem chg_sets (g : Nat) : ∀ (vs : List Value) (o : Nat) (w w' : World), Chg [g] w w' → Chg [g] w (w'.setCells g o vs)
 | [], _, _, _, h => h
 | v :: r, o, w, w', h => chg_sets g r (o + 1) w _ (h.setCell v (.inl (by simp)))
theorem run_clear_file (w : World) (ty : TypeId) (g o c : Nat) (hc : ∀ j, j < 2 → (w.cell? ⟨g, o + j, none⟩).isSome = true) (hf : ∀ j, j < 2 → w.frozen? ⟨g, o + j, none⟩ = false) :
  (Builtin.clear_ #[132] ty #[.slice (some ⟨g, o, none⟩) 1 c]).run Tryz.prog w = .ok (.tuple #[]) (w.setCells g o [.int .i64 0, .int .i64 0]) := by
 have hst := run_storeCells_cells (P := Tryz.prog) g o [.int .i64 0, .int .i64 0] 0 w (by simpa using hc) (by simpa using hf) (by intro v hv; simp at hv; subst hv; rfl)
 simp only [Nat.add_zero] at hst
 have hz : (zeroValue 166).run Tryz.prog w = .ok (.agg #[.int .i64 0, .int .i64 0]) w := by kernel_rfl
 have hzc : (Builtin.zeroCells (Value.agg #[.int .i64 0, .int .i64 0]).cells 1).toList = [.int .i64 0, .int .i64 0] := by kernel_rfl
 simp [Builtin.clear_, run_underlying Tryz.underlying132, hz, hzc, hst]
theorem info_file : (Tryz.prog.info? 166).map (fun i => (i.zero, i.size, i.bytes)) = some (some (.agg #[.int .i64 0, .int .i64 0]), 2, 16) := by kernel_rfl
theorem fdel_any (base g n cap i : Nat) (fs : List (Int × Int)) (w : World) (ho : w.ownsRow base 166 2 (.slice (some ⟨g, 0, none⟩) n cap) n (fcells fs)) (hi : i < n) :
  Calls Tryz.prog 239 #[.slice (some ⟨g, 0, none⟩) n cap, .int .i64 (i : Int), .int .i64 ((i : Int) + 1)] w fun e w' => e = .returned (.slice (some ⟨g, 0, none⟩) (n - 1) cap) ∧
   w'.ownsRow base 166 2 (.slice (some ⟨g, 0, none⟩) (n - 1) cap) (n - 1) (fcells (fs.eraseIdx i)) ∧ Chg [g] w w' := by
 obtain ⟨i0, hi0, hz0, hz1, hz2⟩ := info_parts info_file
 have hxl := ho.1
 rw [fcells_len] at hxl
 rcases ho.2 with ⟨_, h0⟩ | ⟨g', cap', cur, hv, hbg, hheap, hn, hcm, hcs, htk⟩
 ·omega
 injection hv with hv1 hv2 hv3
 injection hv1 with hv1
 injection hv1 with hv1
 subst hv1 hv3
 clear hv2
 have hB : BoxO w 166 g cur.toList := by unfold BoxO; simpa using hheap
 have hcl : cur.toList.length = cap * 2 := by simpa using hcs
 obtain ⟨k, hk⟩ : ∃ k, n - (i + 1) = k := ⟨_, rfl⟩
 have hgetc : ∀ j, j < n * 2 → w.cell? ⟨g, j, none⟩ = (fcells fs)[j]? := fun j hj => by
  rw [hB.cell, ← htk, List.getElem?_take, if_pos hj]
 obtain ⟨news, hnews⟩ : ∃ news, news = fcells (fs.drop (i + 1)) := ⟨_, rfl⟩
 have hnl : news.length = k * 2 := by rw [hnews, fcells_len, List.length_drop]; omega
 have hnd : news = (fcells fs).drop ((i + 1) * 2) := by rw [hnews, fcells_drop]
 obtain ⟨A, hA, hsrc⟩ : ∃ A : Addr, (if cap = i + 1 then some (⟨g, 0, none⟩ : Addr) else some ⟨g, (i + 1) * 2, none⟩) = some A ∧ Hid (∀ j u, news[j]? = some u → w.drew.cell? (A.add j) = some u) := by
  by_cases h : cap = i + 1
  ·refine ⟨⟨g, 0, none⟩, by simp [h], fun j u hu => ?_⟩
   have h0 : news.length = 0 := by rw [hnl]; omega
   rw [List.length_eq_zero_iff.1 h0] at hu
   simp at hu
  ·refine ⟨⟨g, (i + 1) * 2, none⟩, by simp [h], fun j u hu => ?_⟩
   have hj : j < k * 2 := by have := (List.getElem?_eq_some_iff.1 hu).1; omega
   rw [Addr.add_lit, show w.drew.cell? ⟨g, (i + 1) * 2 + j, none⟩ = w.cell? ⟨g, (i + 1) * 2 + j, none⟩ from rfl, hgetc _ (by omega), ← hu, hnd, List.getElem?_drop]
 have s1 : Hid (news.length = k * 2) := hnl
 have s2 : Hid (∀ u ∈ news, u.oneCell' = true) := by rw [hnews]; exact fcells_one _
 have s3 : Hid (∀ j, j < news.length → (w.drew.cell? ⟨g, 0 + i * 2 + j, none⟩).isSome = true ∧ w.drew.frozen? ⟨g, 0 + i * 2 + j, none⟩ = false) := by
  intro j hj
  rw [hnl] at hj
  refine ⟨?_, hB.free _⟩
  rw [show w.drew.cell? ⟨g, 0 + i * 2 + j, none⟩ = w.cell? ⟨g, 0 + i * 2 + j, none⟩ from rfl, hB.cell, List.getElem?_eq_getElem (by omega)]
  rfl
 obtain ⟨W1, hW1⟩ : ∃ W1, W1 = w.drew.setCells g (0 + i * 2) news := ⟨_, rfl⟩
 have hB1 : BoxO W1 166 g (cur.toList.take (i * 2) ++ (news ++ cur.toList.drop (i * 2 + news.length))) := by
  rw [hW1, Nat.zero_add]
  exact BoxO.stores news (i * 2) w.drew _ hB.drew (by omega)
 have hC1 : Chg [g] w W1 := by
  rw [hW1]
  exact chg_sets g news _ w _ (Chg.refl _ _).drew
 have hcell : ∀ j, j < 2 → (W1.cell? ⟨g, (i + k) * 2 + j, none⟩).isSome = true := fun j hj => by
  rw [hB1.cell, List.getElem?_eq_getElem (by simp only [List.length_append, List.length_take, List.length_drop]; omega)]
  rfl
 have hclr := fun ty c => run_clear_file W1 ty g ((i + k) * 2) c hcell (fun j hj => hB1.free _)
 have hB2 := BoxO.stores [.int .i64 0, .int .i64 0] ((i + k) * 2) W1 _ hB1 (by simp only [List.length_append, List.length_take, List.length_drop, List.length_cons, List.length_nil]; omega)
 have hC2 := chg_sets g [.int .i64 0, .int .i64 0] ((i + k) * 2) w _ hC1
 obtain ⟨W2, hW2⟩ : ∃ W2, W2 = W1.setCells g ((i + k) * 2) [.int .i64 0, .int .i64 0] := ⟨_, rfl⟩
 rw [← hW2] at hB2 hC2
 simp only [← hW2] at hclr
 have hfin : W2.ownsRow base 166 2 (.slice (some ⟨g, 0, none⟩) (i + k) cap) (i + k) (fcells (fs.eraseIdx i)) := by
  refine ⟨by rw [fcells_len, List.length_eraseIdx_of_lt (by omega)]; omega, .inr ⟨g, cap, _, rfl, hbg, hB2, by omega, hcm, ?_, ?_⟩⟩
  ·simp only [List.size_toArray, List.length_append, List.length_take, List.length_drop, List.length_cons, List.length_nil]
   omega
  ·have e1 : fcells (fs.eraseIdx i) = (fcells fs).take (i * 2) ++ news := by
    rw [List.eraseIdx_eq_take_drop_succ, fcells_app, fcells_take, hnews]
   have e2 : (fcells fs).take (i * 2) = cur.toList.take (i * 2) := by
    rw [← htk, List.take_take, Nat.min_eq_left (by omega)]
   rw [e1, e2, List.take_append_of_le_length (by simp only [List.length_append, List.length_take, List.length_drop]; omega), List.take_take, Nat.min_eq_left (by omega), ← List.append_assoc,
    List.take_append_of_le_length (by simp only [List.length_append, List.length_take]; omega), List.take_of_length_le (by simp only [List.length_append, List.length_take]; omega)]
 have hik : i + k = n - 1 := by omega
 have HF : Hid (W2.ownsRow base 166 2 (.slice (some ⟨g, 0, none⟩) (n - 1) cap) (n - 1) (fcells (fs.eraseIdx i))) := by rw [← hik]; exact hfin
 have HIK := Lib.hid hik
 have HW := Lib.hid hW1
 have e1 : ((i : Int) == (i : Int) + 1) = false := by simp; omega
 have hic : i ≤ cap := by omega
 have hic1 : i + 1 ≤ cap := by omega
 have hji : 0 ≤ (i : Int) + 1 ∧ (i : Int) + 1 ≤ (n : Int) := by omega
 have hroom : i + k ≤ cap := by omega
 have hkn : i + k ≤ n := by omega
 have hn1 : n - (i + k) = 1 := by omega
 have hnc : (n : Int) ≤ (cap : Int) := by omega
 unfold maxLen at hcm
 clear ho hheap hB hcl hgetc hnews hnl hnd hB1 hC1 hcell hB2 hW2 hfin hik hW1 htk hcs hxl
 go_enter Tryz.func239, Tryz.ntmps239
 go_wp2_with fail
 go_region_law (refine step_append_room rfl (.tmp 22) (.tmp 25) 132 rfl 166 i0 2 Tryz.underlying132 hi0 hz1 g 0 i cap (by simp [Act.eval, Act.put]) A k (cap - (i + 1)) news (by simp [Act.eval, Act.put]) s1.out hsrc.out s2.out hroom s3.out ?_; rw [← HW.out])
 go_wp2_with fail
 go_ret
 exact ⟨congrArg (fun x => Ending.returned (Value.slice (some ⟨g, 0, none⟩) x cap)) HIK.out, HF.out, hC2⟩
end
section
open Go Go.RowKit Go.Lib
theorem info_item : (Tryz.prog.info? 27).map (fun i => (i.zero, i.size, i.bytes)) = some (some (.agg #[.int .i64 0, .int .i64 0, .int .u64 0, .int .u64 0, .int .i64 0]), 5, 40) := by kernel_rfl
theorem run_copy5 (w : World) (ty : TypeId) (b o dLen dCap : Nat) (a : Addr) (sLen sCap : Nat) (cs : List Value) (hn : cs.length = Nat.min sLen dLen * 5)
  (hsrc : ∀ j v, cs[j]? = some v → w.cell? (a.add j) = some v) (hc : ∀ j, j < cs.length → (w.cell? ⟨b, o + j, none⟩).isSome = true) (hf : ∀ j, j < cs.length → w.frozen? ⟨b, o + j, none⟩ = false) (h1 : ∀ v ∈ cs, v.oneCell' = true) :
  (Builtin.copy_ #[24, 24] ty #[.slice (some ⟨b, o, none⟩) dLen dCap, .slice (some a) sLen sCap]).run Tryz.prog w = .ok (goInt (Nat.min sLen dLen)) (w.setCells b o cs) := by
 have hl := run_loadCells_list (P := Tryz.prog) w a cs hsrc
 have hst := run_storeCells_cells (P := Tryz.prog) b o cs 0 w (by simpa using hc) (by simpa using hf) h1
 obtain ⟨i0, hi0, hz0, hz1, hz2⟩ := info_parts info_item
 simp [Builtin.copy_, run_underlying Tryz.underlying24, Builtin.lenOf, Builtin.firstCells, sizeOf, typeInfo, hi0, hz1, ← hn, hl, hst]
def InsPost (base n : Nat) (L : List It) (F : List Nat) (w : World) (e : Ending) (w' : World) : Prop := ∃ A' c', e = .returned (.slice A' (n + 1) c') ∧ w'.ownsRow base 27 5 (.slice A' (n + 1) c') (n + 1) (itc L) ∧ Chg F w w' ∧ ∀ g, F = [g] → (Value.slice A' (n + 1) c').ownBlock = some g
theorem insert_room (base g n cap i : Nat) (l : List It) (x : It) (vb : Nat) (w : World) (ho : w.ownsRow base 27 5 (.slice (some ⟨g, 0, none⟩) n cap) n (itc l)) (hi : i < n) (hroom : n + 1 ≤ cap) (hv : BoxO w 27 vb x.cells) (hvg : vb ≠ g) :
  Calls Tryz.prog 151 #[.slice (some ⟨g, 0, none⟩) n cap, .int .i64 (i : Int), .slice (some ⟨vb, 0, none⟩) 1 1] w (InsPost base n (l.take i ++ x :: l.drop i) [g] w) := by
 have hxl := ho.1
 rw [itc_length] at hxl
 have hln : l.length = n := by omega
 rcases ho.2 with ⟨_, h0⟩ | ⟨g', cap', cur, hvv, hbg, hheap, hn, hcm, hcs, htk⟩
 ·omega
 injection hvv with hv1 hv2 hv3
 injection hv1 with hv1
 injection hv1 with hv1
 subst hv1 hv3
 clear hv2
 have hB : BoxO w 27 g cur.toList := by unfold BoxO; simpa using hheap
 have hcl : cur.toList.length = cap * 5 := by simpa using hcs
 obtain ⟨D, hD⟩ : ∃ D, D = itc (l.drop i) := ⟨_, rfl⟩
 have hDl : D.length = (n - i) * 5 := by rw [hD, itc_length, List.length_drop, hln]
 have hD1 : ∀ v ∈ D, v.oneCell' = true := by rw [hD]; exact itc_one _
 have hgetc : ∀ j v, D[j]? = some v → w.drew.cell? ⟨g, i * 5 + j, none⟩ = some v := fun j v hj => by
  have hjl : j < (n - i) * 5 := by have := (List.getElem?_eq_some_iff.1 hj).1; omega
  rw [show w.drew.cell? ⟨g, i * 5 + j, none⟩ = w.cell? ⟨g, i * 5 + j, none⟩ from rfl, hB.cell, ← hj, hD, itc_drop, List.getElem?_drop, ← htk, List.getElem?_take, if_pos (by omega)]
 have hsome : ∀ k, k < cap * 5 → (w.drew.cell? ⟨g, k, none⟩).isSome = true := fun k hk => by
  rw [show w.drew.cell? ⟨g, k, none⟩ = w.cell? ⟨g, k, none⟩ from rfl, hB.cell, List.getElem?_eq_getElem (by omega)]; rfl
 have hcp1 : ∀ ty dc sc, (Builtin.copy_ #[24, 24] ty #[.slice (some ⟨g, (i + 1) * 5, none⟩) (n - i) dc, .slice (some ⟨g, i * 5, none⟩) (n + 1 - i) sc]).run Tryz.prog w.drew = .ok (goInt ((n - i : Nat) : Int)) (w.drew.setCells g ((i + 1) * 5) D) := fun ty dc sc => by
  have hm : Nat.min (n + 1 - i) (n - i) = n - i := by simp only [Nat.min_def]; split <;> omega
  have := run_copy5 w.drew ty g ((i + 1) * 5) (n - i) dc ⟨g, i * 5, none⟩ (n + 1 - i) sc D (by rw [hm, hDl]) (fun j v hj => by rw [Addr.add_lit]; exact hgetc j v hj) (fun j hj => hsome _ (by omega)) (fun j hj => hB.drew.free _) hD1
  rwa [hm] at this
 obtain ⟨W1, hW1⟩ : ∃ W1, W1 = w.drew.setCells g ((i + 1) * 5) D := ⟨_, rfl⟩
 have hB1 : BoxO W1 27 g (cur.toList.take ((i + 1) * 5) ++ (D ++ cur.toList.drop ((i + 1) * 5 + D.length))) := by
  rw [hW1]
  exact BoxO.stores D _ w.drew _ hB.drew (by omega)
 have hC1 : Chg [g] w W1 := by
  rw [hW1]
  exact chg_sets g D _ w _ (Chg.refl _ _).drew
 have hv1 : BoxO W1 27 vb x.cells := hv.chg hC1 (by simpa using hvg)
 rw [← hW1] at hcp1
 have hcp2 : ∀ ty dc, (Builtin.copy_ #[24, 24] ty #[.slice (some ⟨g, i * 5, none⟩) (n + 1 - i) dc, .slice (some ⟨vb, 0, none⟩) 1 1]).run Tryz.prog W1 = .ok (goInt 1) (W1.setCells g (i * 5) x.cells) := fun ty dc => by
  have hm : Nat.min 1 (n + 1 - i) = 1 := by simp only [Nat.min_def]; split <;> omega
  have := run_copy5 W1 ty g (i * 5) (n + 1 - i) dc ⟨vb, 0, none⟩ 1 1 x.cells (by rw [hm]; rfl) (fun j v hj => by rw [Addr.add_lit, Nat.zero_add, hv1.cell]; exact hj)
   (fun j hj => by rw [hB1.cell, List.getElem?_eq_getElem (by rw [It.cells_len] at hj; simp only [List.length_append, List.length_take, List.length_drop]; omega)]; rfl) (fun j hj => hB1.free _) (fun v hv => itc_one [x] v (by simpa [itc] using hv))
  rwa [hm] at this
 obtain ⟨W2, hW2⟩ : ∃ W2, W2 = W1.setCells g (i * 5) x.cells := ⟨_, rfl⟩
 have hB2 := BoxO.stores x.cells (i * 5) W1 _ hB1 (by simp only [List.length_append, List.length_take, List.length_drop, It.cells_len]; omega)
 have hC2 := chg_sets g x.cells (i * 5) w _ hC1
 rw [← hW2] at hB2 hC2
 simp only [← hW2] at hcp2
 have hfin : W2.ownsRow base 27 5 (.slice (some ⟨g, 0, none⟩) (n + 1) cap) (n + 1) (itc (l.take i ++ x :: l.drop i)) := by
  refine ⟨by rw [itc_length, List.length_append, List.length_cons, List.length_take, List.length_drop]; omega, .inr ⟨g, cap, _, rfl, hbg, hB2, by omega, hcm, ?_, ?_⟩⟩
  ·simp only [List.size_toArray, List.length_append, List.length_take, List.length_drop, It.cells_len]
   omega
  ·have e1 : itc (l.take i ++ x :: l.drop i) = cur.toList.take (i * 5) ++ (x.cells ++ D) := by
    rw [itc_append, itc_take, ← htk, List.take_take, Nat.min_eq_left (by omega), hD]
    rfl
   rw [e1]
   have t1 : (cur.toList.take ((i + 1) * 5) ++ (D ++ cur.toList.drop ((i + 1) * 5 + D.length))).take (i * 5) = cur.toList.take (i * 5) := by
    rw [List.take_append_of_le_length (by rw [List.length_take]; omega), List.take_take, Nat.min_eq_left (by omega)]
   have t2 : (cur.toList.take ((i + 1) * 5) ++ (D ++ cur.toList.drop ((i + 1) * 5 + D.length))).drop (i * 5 + x.cells.length) = D ++ cur.toList.drop ((i + 1) * 5 + D.length) := by
    rw [It.cells_len, show i * 5 + 5 = (i + 1) * 5 by omega, List.drop_append_of_le_length (by rw [List.length_take]; omega), List.drop_take, Nat.sub_self, List.take_zero, List.nil_append]
   rw [t1, t2, List.toList_toArray, ← List.append_assoc, ← List.append_assoc, List.take_append_of_le_length (by simp only [List.length_append, List.length_take, It.cells_len]; omega), List.take_of_length_le (by simp only [List.length_append, List.length_take, It.cells_len]; omega), List.append_assoc]
 have hsB : w.shape? g = some (27, cap * 5) := by unfold World.shape?; rw [hheap]; simp [hcs]
 have hsV : w.shape? vb = some (27, 5) := by unfold World.shape?; rw [show w.heap[vb]? = _ from hv]; rfl
 have hov : ∀ lb cb, (callFunc 207 #[.slice (some ⟨vb, 0, none⟩) 1 1, .slice (some ⟨g, (i + 1) * 5, none⟩) lb cb]).run Tryz.prog w = .ok (.value (.bool false)) w := fun lb cb => by
  rw [run_callFunc_extern Tryz.func207 (by kernel_rfl) (by kernel_rfl) (by kernel_rfl) (e := Extern.SlicesOverlaps.overlaps #[24, 24] #[4]) (by kernel_rfl),
   Lib.run_overlaps_apart w 24 4 27 Tryz.underlying24 5 Tryz.sizeOf27 ⟨vb, 0, none⟩ ⟨g, (i + 1) * 5, none⟩ 1 1 lb cb hvg 27 27 5 (cap * 5) hsV hsB (by omega) (hv.free _) (hv.free _)]
  rfl
 have HFIN := Lib.hid (And.intro hfin (And.intro hC2 (fun g' (h : [g] = [g']) => show (Value.slice (some (⟨g, 0, none⟩ : Addr)) (n + 1) cap).ownBlock = some g' by injection h with h; rw [← h]; rfl)))
 have hw1 : IntKind.i64.wrap ((i : Int) + 1) = (i : Int) + 1 := by rw [IntKind.wrap_i64]; unfold maxLen at hcm; omega
 have hb1 : (0 : Int) ≤ (i : Int) + 1 := by omega
 have hin : i ≤ n := by omega
 have htn : ((i : Int) + 1).toNat = i + 1 := by omega
 have hz2 : ¬ ((i : Int) = (n : Int)) := by omega
 have hb2 : ¬ (cap = i + 1) := by omega
 have hb3 : (i : Int) ≤ (n : Int) + 1 := by omega
 have hb4 : ¬ (cap = i) := by omega
 unfold maxLen at hcm
 clear ho hheap hB hcl hgetc hD hDl hD1 hsome hB1 hC1 hv1 hB2 hC2 hfin htk hcs hxl hv hW1 hW2 hsB hsV
 go_enter Tryz.func151, Tryz.ntmps151
 go_wp2_with (simp only [hov])
 go_region_law (refine step_copy_runI rfl _ _ 24 24 rfl (.slice (some ⟨g, (i + 1) * 5, none⟩) (n - i) (cap - (i + 1))) (.slice (some ⟨g, i * 5, none⟩) (n + 1 - i) (cap - i)) (by simp [Act.eval, Act.put]) (by simp [Act.eval, Act.put]) (hcp1 _ _ _) ?_)
 go_wp2_with (at_builtin; refine wpList_copy_runI _ rfl _ _ 24 24 rfl _ _ rfl rfl (hcp2 _ _) ?_)
 go_ret
 exact ⟨_, _, rfl, HFIN.out⟩
theorem insert_end (base : Nat) (A : Option Addr) (n cap : Nat) (l : List It) (x : It) (vb : Nat) (w : World) (hn : n ≤ 1000000) (hbase : base ≤ w.heap.size) (ho : w.ownsRow base 27 5 (.slice A n cap) n (itc l)) (hv : BoxO w 27 vb x.cells) :
  Calls Tryz.prog 151 #[.slice A n cap, .int .i64 (n : Int), .slice (some ⟨vb, 0, none⟩) 1 1] w fun e w' => ∃ A' c', e = .returned (.slice A' (n + 1) c') ∧ w'.ownsRow base 27 5 (.slice A' (n + 1) c') (n + 1) (itc (l ++ [x])) ∧ Chg (Value.slice A n cap).ownBlock.toList w w' ∧ ((Value.slice A' (n + 1) c').ownBlock = (Value.slice A n cap).ownBlock ∨ (Value.slice A' (n + 1) c').ownBlock = some w.heap.size) := by
 obtain ⟨i0, hi0, hz0, hz1, hz2⟩ := info_parts info_item
 obtain ⟨A1, c1, hv0, hnc, hcm, _⟩ := own_form ho
 injection hv0 with e1 e2 e3
 subst e1 e3
 clear e2
 have hrow : Row w.heap.size w (some ⟨vb, 0, none⟩) 1 5 x.cells := ⟨rfl, fun j hj => ⟨_, rfl, hv.lt, by
  rw [show ((⟨vb, 0, none⟩ : Addr).add j) = ⟨vb, j, none⟩ by rw [Addr.add_lit, Nat.zero_add], hv.cell]
  exact List.getElem?_eq_getElem hj⟩⟩
 have hlx : itc l ++ x.cells = itc (l ++ [x]) := by rw [itc_append]; simp [itc]
 have h1c : ∀ u ∈ x.cells, u.oneCell' = true := fun v hv => itc_one [x] v (by simpa [itc] using hv)
 have HR := Lib.hid hrow
 have HO := Lib.hid ho
 have HLX := Lib.hid hlx
 have H1 := Lib.hid h1c
 unfold maxLen at hcm
 clear ho hv hrow hlx h1c
 rcases Nat.eq_or_lt_of_le hnc with hq | hq
 ·subst hq
  go_enter Tryz.func151, Tryz.ntmps151
  go_wp2_with (at_builtin; refine stop_in ?_)
  refine stop_out (wpList_appF rfl (.tmp 23) (.tmp 24) _ rfl base 27 i0 _ 5 40 Tryz.underlying24 hi0 hz0 hz1 hz2 rfl (by omega) w (Below.refl _ _) hbase _ n (itc l) rfl HO.out w.heap.size _ 1 1 (by omega) x.cells rfl HR.out H1.out (n + 1) (itc (l ++ [x])) rfl HLX.out (by unfold maxLen; omega) (by omega) ?_)
  intro A' c' w' h1 h2 h3 h4 h5 h6
  have H6 := Lib.hid (And.intro (Chg.of_grown (F := (Value.slice A n n).ownBlock.toList) h3 (fun b hb => by have hb2 : (Value.slice A n n).ownBlock = some b := hb; rw [hb2]; simp)) h6)
  clear h6
  go_wp2
  go_ret
  exact ⟨_, _, rfl, h1, H6.out⟩
 ·have hq2 : ¬ cap = n := by omega
  go_enter Tryz.func151, Tryz.ntmps151
  go_wp2_with (at_builtin; refine stop_in ?_)
  refine stop_out (wpList_appF rfl (.tmp 23) (.tmp 24) _ rfl base 27 i0 _ 5 40 Tryz.underlying24 hi0 hz0 hz1 hz2 rfl (by omega) w (Below.refl _ _) hbase _ n (itc l) rfl HO.out w.heap.size _ 1 1 (by omega) x.cells rfl HR.out H1.out (n + 1) (itc (l ++ [x])) rfl HLX.out (by unfold maxLen; omega) (by omega) ?_)
  intro A' c' w' h1 h2 h3 h4 h5 h6
  have H6 := Lib.hid (And.intro (Chg.of_grown (F := (Value.slice A n cap).ownBlock.toList) h3 (fun b hb => by have hb2 : (Value.slice A n cap).ownBlock = some b := hb; rw [hb2]; simp)) h6)
  clear h6
  go_wp2
  go_ret
  exact ⟨_, _, rfl, h1, H6.out⟩
theorem insert_grow (base g n i : Nat) (l : List It) (x : It) (vb : Nat) (w : World) (hsm : n ≤ 1000000) (hbase : base ≤ w.heap.size) (ho : w.ownsRow base 27 5 (.slice (some ⟨g, 0, none⟩) n n) n (itc l)) (hi : i < n) (hv : BoxO w 27 vb x.cells) :
  Calls Tryz.prog 151 #[.slice (some ⟨g, 0, none⟩) n n, .int .i64 (i : Int), .slice (some ⟨vb, 0, none⟩) 1 1] w fun e w' => ∃ A' c', e = .returned (.slice A' (n + 1) c') ∧ w'.ownsRow base 27 5 (.slice A' (n + 1) c') (n + 1) (itc (l.take i ++ x :: l.drop i)) ∧ Below w.heap.size w w' ∧ (Value.slice A' (n + 1) c').ownBlock = some w.heap.size := by
 obtain ⟨i0, hi0, hz0, hz1, hz2⟩ := info_parts info_item
 have hxl := ho.1
 rw [itc_length] at hxl
 have hln : l.length = n := by omega
 have hr := Row.own ho
 obtain ⟨a0, hae, hgw⟩ := hr.some_ (by rw [itc_length]; omega)
 injection hae with hae
 subst hae
 have hcell : ∀ j v, (itc l)[j]? = some v → w.cell? ⟨g, j, none⟩ = some v := fun j v hj => by
  have := hr.cells j v hj
  rwa [Addr.add_lit, Nat.zero_add] at this
 obtain ⟨N, hN⟩ : ∃ N, N = w.heap.size := ⟨_, rfl⟩
 obtain ⟨G, hG⟩ : ∃ G, G = grownCap w (n + 1) n 27 := ⟨_, rfl⟩
 have hGn : n + 1 ≤ G := by rw [hG]; exact grownCap_ge w _ _ _
 have hG63 : G ≤ maxLen := by rw [hG]; exact grownCap_le_maxLen w (n + 1) n 27 (by unfold maxLen; omega)
 have hol : ((itc l).take (i * 5)).length = i * 5 := by rw [List.length_take, itc_length]; omega
 have hold : (Builtin.firstCells i0.size i (.slice (some ⟨g, 0, none⟩) i n)).run Tryz.prog w.drew = .ok ((itc l).take (i * 5)).toArray w.drew := by
  rw [hz1]
  exact run_firstCells_some (P := Tryz.prog) (w := w.drew) 5 i ⟨g, 0, none⟩ i n _ hol (fun j v hj => by
   rw [Addr.add_lit, Nat.zero_add]
   rw [List.getElem?_take] at hj
   split at hj
   ·exact hcell j v hj
   ·cases hj)
 obtain ⟨ROW, hROW⟩ : ∃ ROW : Array Value, ROW = ((itc l).take (i * 5)).toArray ++ Builtin.zeroCells (Value.agg #[.int .i64 0, .int .i64 0, .int .u64 0, .int .u64 0, .int .i64 0]).cells (n + 1 - i) ++ Builtin.zeroCells (Value.agg #[.int .i64 0, .int .i64 0, .int .u64 0, .int .u64 0, .int .i64 0]).cells (G - (n + 1)) := ⟨_, rfl⟩
 have hik : i + (n + 1 - i) = n + 1 := by omega
 have hrz : ∀ ty, (Builtin.append_ #[24, 3] ty #[.slice (some ⟨g, 0, none⟩) i n, .int .i64 ((n : Int) + 1 - (i : Int))]).run Tryz.prog w = .ok (.slice (some ⟨N, 0, none⟩) (n + 1) G) (w.drew.alloc (.cells ROW 27)) := fun ty => by
  have h := Lib.run_append_grow_zeros w 24 3 ty 27 i0 _ .i64 .i64 Tryz.underlying24 Tryz.underlying3 hi0 hz0 (some ⟨g, 0, none⟩) i n _ hold (n + 1 - i) (by omega) (by omega) (by omega) (by omega) (by rw [hz2]; omega) (by rw [hz2, hik]; exact growslice_fits (by omega) (by omega))
  rw [hik, ← hG, ← hN, ← hROW] at h
  rw [show (n : Int) + 1 - (i : Int) = ((n + 1 - i : Nat) : Int) by omega]
  exact h
 have hzs : ∀ k, (Builtin.zeroCells (Value.agg #[.int .i64 0, .int .i64 0, .int .u64 0, .int .u64 0, .int .i64 0]).cells k).size = k * 5 := fun k => by simp [Builtin.zeroCells, Value.cells]
 have hRs : ROW.size = G * 5 := by
  rw [hROW, Array.size_append, Array.size_append, hzs, hzs, List.size_toArray, hol]
  omega
 have hRt : ROW.toList.take (i * 5) = (itc l).take (i * 5) := by
  rw [hROW, Array.toList_append, Array.toList_append, List.append_assoc, List.toList_toArray, List.take_append_of_le_length (by omega), List.take_of_length_le (by omega)]
 obtain ⟨D, hD⟩ : ∃ D, D = itc (l.drop i) := ⟨_, rfl⟩
 have hDl : D.length = (n - i) * 5 := by rw [hD, itc_length, List.length_drop, hln]
 have hD1 : ∀ v ∈ D, v.oneCell' = true := by rw [hD]; exact itc_one _
 have hDc : ∀ j v, D[j]? = some v → w.cell? ⟨g, i * 5 + j, none⟩ = some v := fun j v hj => by
  refine hcell _ _ ?_
  rwa [hD, itc_drop, List.getElem?_drop] at hj
 obtain ⟨W1, hW1⟩ : ∃ W1, W1 = w.drew.alloc (.cells ROW 27) := ⟨_, rfl⟩
 have hB1 : BoxO W1 27 N ROW.toList := by rw [hW1, hN]; exact BoxO.new w.drew ROW 27
 have hb1 : Below w.heap.size w W1 := by rw [hW1]; exact (below_drew (Below.refl w.heap.size w)).alloc (Nat.le_refl _) _
 have hv1 : BoxO W1 27 vb x.cells := hv.below hb1
 have hRl : ROW.toList.length = G * 5 := by simpa using hRs
 have hC1 : Chg [N] w W1 := Chg.of_below hb1 [N]
 rw [← hW1] at hrz
 have hcpA : ∀ ty dc, (Builtin.copy_ #[24, 24] ty #[.slice (some ⟨N, i * 5, none⟩) (n + 1 - i) dc, .slice (some ⟨vb, 0, none⟩) 1 1]).run Tryz.prog W1 = .ok (goInt 1) (W1.setCells N (i * 5) x.cells) := fun ty dc => by
  have hm : Nat.min 1 (n + 1 - i) = 1 := by simp only [Nat.min_def]; split <;> omega
  have := run_copy5 W1 ty N (i * 5) (n + 1 - i) dc ⟨vb, 0, none⟩ 1 1 x.cells (by rw [hm]; rfl) (fun j v hj => by rw [Addr.add_lit, Nat.zero_add, hv1.cell]; exact hj)
   (fun j hj => by rw [hB1.cell, List.getElem?_eq_getElem (by rw [It.cells_len] at hj; omega)]; rfl) (fun j hj => hB1.free _) (fun v hv => itc_one [x] v (by simpa [itc] using hv))
  rwa [hm] at this
 obtain ⟨W2, hW2⟩ : ∃ W2, W2 = W1.setCells N (i * 5) x.cells := ⟨_, rfl⟩
 have hB2 := BoxO.stores x.cells (i * 5) W1 _ hB1 (by rw [It.cells_len]; omega)
 have hC2 := chg_sets N x.cells (i * 5) w _ hC1
 rw [← hW2] at hB2 hC2
 simp only [← hW2] at hcpA
 rw [hRt, It.cells_len] at hB2
 have hb2 : Below w.heap.size w W2 := hC2.below (Nat.le_refl _) (by simp [hN])
 have hcpB : ∀ ty dc sc, (Builtin.copy_ #[24, 24] ty #[.slice (some ⟨N, (i + 1) * 5, none⟩) (n - i) dc, .slice (some ⟨g, i * 5, none⟩) (n - i) sc]).run Tryz.prog W2.drew = .ok (goInt ((n - i : Nat) : Int)) (W2.drew.setCells N ((i + 1) * 5) D) := fun ty dc sc => by
  have hm : Nat.min (n - i) (n - i) = n - i := Nat.min_self _
  have := run_copy5 W2.drew ty N ((i + 1) * 5) (n - i) dc ⟨g, i * 5, none⟩ (n - i) sc D (by rw [hm, hDl]) (fun j v hj => by
    rw [Addr.add_lit]
    exact (hb2.cell (p := ⟨g, i * 5 + j, none⟩) hgw).trans (hDc j v hj))
   (fun j hj => by
    rw [show W2.drew.cell? ⟨N, (i + 1) * 5 + j, none⟩ = W2.cell? ⟨N, (i + 1) * 5 + j, none⟩ from rfl, hB2.cell, List.getElem?_eq_getElem (by simp only [List.length_append, List.length_take, List.length_drop, It.cells_len, itc_length]; omega)]; rfl)
   (fun j hj => hB2.drew.free _) hD1
  rwa [hm] at this
 obtain ⟨W3, hW3⟩ : ∃ W3, W3 = W2.drew.setCells N ((i + 1) * 5) D := ⟨_, rfl⟩
 have hB3 := BoxO.stores D ((i + 1) * 5) W2.drew _ hB2.drew (by simp only [List.length_append, List.length_take, List.length_drop, It.cells_len, itc_length]; omega)
 have hC3 := chg_sets N D ((i + 1) * 5) w _ hC2.drew
 rw [← hW3] at hB3 hC3
 simp only [← hW3] at hcpB
 have hfin : W3.ownsRow base 27 5 (.slice (some ⟨N, 0, none⟩) (n + 1) G) (n + 1) (itc (l.take i ++ x :: l.drop i)) := by
  refine ⟨by rw [itc_length, List.length_append, List.length_cons, List.length_take, List.length_drop]; omega, .inr ⟨N, G, _, rfl, by omega, hB3, hGn, hG63, ?_, ?_⟩⟩
  ·simp only [List.size_toArray, List.length_append, List.length_take, List.length_drop, It.cells_len, itc_length]
   omega
  ·have e1 : itc (l.take i ++ x :: l.drop i) = (itc l).take (i * 5) ++ x.cells ++ D := by
    rw [itc_append, itc_take, hD, List.append_assoc]
    rfl
   have e2 : ((itc l).take (i * 5) ++ (x.cells ++ ROW.toList.drop (i * 5 + 5))).take ((i + 1) * 5) = (itc l).take (i * 5) ++ x.cells := by
    rw [← List.append_assoc, List.take_append_of_le_length (by simp only [List.length_append, It.cells_len, hol]; omega), List.take_of_length_le (by simp only [List.length_append, It.cells_len, hol]; omega)]
   rw [e1, e2, List.toList_toArray, ← List.append_assoc, List.take_append_of_le_length (by simp only [List.length_append, It.cells_len, hol]; omega), List.take_of_length_le (by simp only [List.length_append, It.cells_len, hol]; omega)]
 have hb3 : Below w.heap.size w W3 := hC3.below (Nat.le_refl _) (by simp [hN])
 have HFIN := Lib.hid (And.intro hfin (And.intro hb3 (show (Value.slice (some ⟨N, 0, none⟩) (n + 1) G).ownBlock = some w.heap.size by rw [hN]; rfl)))
 have hw1 : IntKind.i64.wrap ((i : Int) + 1) = (i : Int) + 1 := by rw [IntKind.wrap_i64]; omega
 have hb1 : (0 : Int) ≤ (i : Int) + 1 := by omega
 have hin : i ≤ n := by omega
 have htn : ((i : Int) + 1).toNat = i + 1 := by omega
 have hz2 : ¬ ((i : Int) = (n : Int)) := by omega
 have hg1 : ¬ (G = i) := by omega
 have hg2 : ¬ (G = i + 1) := by omega
 have hb3 : (i : Int) ≤ (n : Int) + 1 := by omega
 have hb4 : ¬ (n = i) := by omega
 have HRZ := Lib.hid hrz
 have HA := Lib.hid hcpA
 have HB := Lib.hid hcpB
 unfold maxLen at hG63
 clear ho hr hcell hN hG hol hold hROW hik hrz hzs hRs hRt hD hDl hD1 hDc hW1 hB1 hv1 hRl hC1 hcpA hW2 hB2 hC2 hb2 hcpB hW3 hB3 hC3 hfin hv hxl
 go_enter Tryz.func151, Tryz.ntmps151
 go_wp2_with (first
  | (at_builtin; refine Lib.wpList_append_run _ rfl _ _ _ _ rfl _ _ rfl rfl _ _ (HRZ.out _) ?_)
  | (at_builtin; refine wpList_copy_runI _ rfl _ _ 24 24 rfl _ _ rfl rfl (HA.out _ _) ?_))
 rw [HA.out]
 go_wp2_with fail
 go_region_law (refine step_copy_runI rfl _ _ 24 24 rfl (.slice (some ⟨N, (i + 1) * 5, none⟩) (n - i) (G - (i + 1))) (.slice (some ⟨g, i * 5, none⟩) (n - i) (n - i)) (by simp [Act.eval, Act.put]) (by simp [Act.eval, Act.put]) (HB.out _ _ _) ?_)
 go_wp2
 go_ret
 exact ⟨_, _, rfl, HFIN.out⟩
end
section
open Go Go.RowKit Go.Lib
theorem insert_any (base : Nat) (A : Option Addr) (n cap i : Nat) (l : List It) (x : It) (vb : Nat) (w : World) (hn : n ≤ 1000000) (hi : i ≤ n) (hbase : base ≤ w.heap.size) (ho : w.ownsRow base 27 5 (.slice A n cap) n (itc l)) (hv : BoxO w 27 vb x.cells) (hvA : ∀ a, A = some a → vb ≠ a.block) :
  Calls Tryz.prog 151 #[.slice A n cap, .int .i64 (i : Int), .slice (some ⟨vb, 0, none⟩) 1 1] w fun e w' => ∃ A' c', e = .returned (.slice A' (n + 1) c') ∧ w'.ownsRow base 27 5 (.slice A' (n + 1) c') (n + 1) (itc (l.take i ++ x :: l.drop i)) ∧ Chg (Value.slice A n cap).ownBlock.toList w w' ∧ ((Value.slice A' (n + 1) c').ownBlock = (Value.slice A n cap).ownBlock ∨ (Value.slice A' (n + 1) c').ownBlock = some w.heap.size) := by
 have hln : l.length = n := by have := ho.1; rw [itc_length] at this; omega
 rcases Nat.eq_or_lt_of_le hi with rfl | hi
 ·rw [List.take_of_length_le (by omega), List.drop_of_length_le (by omega)]
  exact insert_end base A i cap l x vb w hn hbase ho hv
 ·rcases ho.2 with ⟨_, h0⟩ | ⟨g, cap', cur, hvv, hbg, _, hnc, _⟩
  ·omega
  ·injection hvv with hA _ hc
   subst hA hc
   rcases Nat.lt_or_ge n cap with h1 | h1
   ·refine (insert_room base g n cap i l x vb w ho hi h1 hv (hvA _ rfl)).mono ?_
    rintro e w' ⟨A', c', h2, h3, h4, h5⟩
    exact ⟨A', c', h2, h3, h4, .inl (h5 g rfl)⟩
   ·obtain rfl : cap = n := by omega
    refine (insert_grow base g cap i l x vb w hn hbase ho hi hv).mono ?_
    rintro e w' ⟨A', c', h2, h3, h4, h5⟩
    exact ⟨A', c', h2, h3, Chg.of_below h4 _, .inr h5⟩
theorem run_clear_items (w : World) (g o k : Nat) (hc : ∀ j, j < k * 5 → (w.cell? ⟨g, o + j, none⟩).isSome = true) (hf : ∀ j, j < k * 5 → w.frozen? ⟨g, o + j, none⟩ = false) :
  ∃ cs : List Value, cs.length = k * 5 ∧ ∀ ty c, (Builtin.clear_ #[24] ty #[.slice (some ⟨g, o, none⟩) k c]).run Tryz.prog w = .ok (.tuple #[]) (w.setCells g o cs) := by
 refine ⟨(Builtin.zeroCells (Value.agg #[.int .i64 0, .int .i64 0, .int .u64 0, .int .u64 0, .int .i64 0]).cells k).toList, by simp [Builtin.zeroCells, Value.cells], fun ty c => ?_⟩
 have hl : (Builtin.zeroCells (Value.agg #[.int .i64 0, .int .i64 0, .int .u64 0, .int .u64 0, .int .i64 0]).cells k).toList.length = k * 5 := by simp [Builtin.zeroCells, Value.cells]
 have h1 : ∀ v ∈ (Builtin.zeroCells (Value.agg #[.int .i64 0, .int .i64 0, .int .u64 0, .int .u64 0, .int .i64 0]).cells k).toList, v.oneCell' = true := fun v hv => by
  simp only [Builtin.zeroCells, Value.cells, Array.mem_toList_iff, Array.mem_map] at hv
  obtain ⟨a, _, rfl⟩ := hv
  have h5 : a % 5 < 5 := Nat.mod_lt _ (by omega)
  show Value.oneCell' (#[.int .i64 0, .int .i64 0, .int .u64 0, .int .u64 0, .int .i64 0][a % 5]!) = true
  generalize a % 5 = b at *
  match b with
  | 0 => rfl
  | 1 => rfl
  | 2 => rfl
  | 3 => rfl
  | 4 => rfl
  | b + 5 => omega
 have hst := run_storeCells_cells (P := Tryz.prog) g o (Builtin.zeroCells (Value.agg #[.int .i64 0, .int .i64 0, .int .u64 0, .int .u64 0, .int .i64 0]).cells k).toList 0 w (by simpa [hl] using hc) (by simpa [hl] using hf) h1
 simp only [Nat.add_zero] at hst
 have hz : (zeroValue 27).run Tryz.prog w = .ok (.agg #[.int .i64 0, .int .i64 0, .int .u64 0, .int .u64 0, .int .i64 0]) w := by kernel_rfl
 cases k with
 | zero => simp [Builtin.clear_, run_underlying Tryz.underlying24, Builtin.zeroCells, World.setCells]
 | succ k => simp [Builtin.clear_, run_underlying Tryz.underlying24, hz, hst]
end
section
open Go Go.RowKit Go.Lib
theorem filt_take {P : It → Bool} {l : List It} {q : Nat} (h : q < l.length) : (l.take (q + 1)).filter P = (l.take q).filter P ++ (if P l[q] = true then [l[q]] else []) := by
 rw [List.take_succ_eq_append_getElem h, List.filter_append, List.filter_cons, List.filter_nil]
theorem filt_pre {P : It → Bool} {l : List It} (h : l.any P = true) : (l.take (l.findIdx P + 1)).filter (fun y => !P y) = l.take (l.findIdx P) := by
 have hl : l.findIdx P < l.length := List.findIdx_lt_length.2 (by simpa using h)
 rw [filt_take hl]
 have h1 : P l[l.findIdx P] = true := List.findIdx_getElem
 have h2 : (l.take (l.findIdx P)).filter (fun y => !P y) = l.take (l.findIdx P) := List.filter_eq_self.2 fun y hy => by
  obtain ⟨i, hi, rfl⟩ := List.mem_take_iff_getElem.1 hy
  have := List.not_of_lt_findIdx (p := P) (xs := l) (i := i) (by omega)
  simpa using this
 rw [h2]
 simp [h1]
structure Pk (cur cs : List Value) (cap p q : Nat) (L : List It) : Prop where
 len : cs.length = cap * 5
 pre : cs.take (p * 5) = itc L
 post : cs.drop (q * 5) = cur.drop (q * 5)
 pl : L.length = p
theorem Pk.skip {cur cs : List Value} {cap p q : Nat} {L : List It} (h : Pk cur cs cap p q L) : Pk cur cs cap p (q + 1) L :=
 ⟨h.len, h.pre, by rw [show (q + 1) * 5 = q * 5 + 5 by omega, ← List.drop_drop, h.post, List.drop_drop], h.pl⟩
theorem Pk.keep {cur cs : List Value} {cap p q : Nat} {L : List It} (h : Pk cur cs cap p q L) (hpq : p < q) (hq : q < cap) (y : It) : Pk cur (cs.take (p * 5) ++ (y.cells ++ cs.drop (p * 5 + y.cells.length))) cap (p + 1) (q + 1) (L ++ [y]) := by
 have hl := h.len
 have hpl := h.pl
 refine ⟨by simp only [List.length_append, List.length_take, List.length_drop, It.cells_len]; omega, ?_, ?_, by simp [hpl]⟩
 ·rw [← List.append_assoc, List.take_append_of_le_length (by simp only [List.length_append, List.length_take, It.cells_len]; omega), List.take_of_length_le (by simp only [List.length_append, List.length_take, It.cells_len]; omega), h.pre, itc_append]
  simp [itc]
 ·rw [← List.append_assoc, show (q + 1) * 5 = (cs.take (p * 5) ++ y.cells).length + ((q - p) * 5) by simp only [List.length_append, List.length_take, It.cells_len]; omega, List.drop_append, List.drop_drop, List.drop_eq_nil_of_le (by omega), List.nil_append]
  have := h.skip.post
  rw [show p * 5 + y.cells.length + ((cs.take (p * 5) ++ y.cells).length + (q - p) * 5 - (cs.take (p * 5) ++ y.cells).length) = (q + 1) * 5 by simp only [List.length_append, List.length_take, It.cells_len]; omega, this]
  congr 1
  simp only [List.length_append, List.length_take, It.cells_len]
  omega
theorem delfunc_any (K : Nat) (hF : ∀ args w, (callFunc K args).run Tryz.prog w = .ok (.enter K args) w) (capt : Array Value) (P : It → Bool) (base : Nat) (A : Option Addr) (n cap : Nat) (l : List It) (w : World) (hn : n ≤ 1000000) (hbase : base ≤ w.heap.size) (ho : w.ownsRow base 27 5 (.slice A n cap) n (itc l))
  (hK : ∀ x w1, (∀ F, (∀ a, A = some a → F = [a.block]) → Chg F w w1) → Calls Tryz.prog K (#[x.val] ++ capt) w1 fun e w' => e = .returned (.bool (P x)) ∧ Below w1.heap.size w1 w') :
  Calls Tryz.prog 152 #[.slice A n cap, .func (.func K) #[] capt] w fun e w' => ∃ k A' c', e = .returned (.slice A' k c') ∧ k = (l.filter fun y => !P y).length ∧ w'.ownsRow base 27 5 (.slice A' k c') k (itc (l.filter fun y => !P y)) ∧ Below base w w' := by
 have hidx := iidx_cap K hF capt P A n cap l w hn (Row.own ho) (fun x w1 hb => hK x w1 (fun F _ => Chg.of_below hb F))
 have hln : l.length = n := by have := ho.1; rw [itc_length] at this; omega
 cases hany : l.any P with
 | false =>
  rw [fidx_none hany] at hidx
  have hfl : (l.filter fun y => !P y) = l := List.filter_eq_self.2 fun y hy => by
   have := (List.any_eq_false.1 hany) y hy
   simpa using this
  have HF := Lib.hid hfl
  have HO := Lib.hid ho
  have HI := Lib.hid hidx
  have HLN := Lib.hid hln
  clear hidx hany hfl ho hK hln
  go_enter Tryz.func152, Tryz.ntmps152
  go_wp2_with fail
  refine HI.out.mono ?_
  rintro e w1 ⟨rfl, hb1⟩
  go_wp2
  go_ret
  exact ⟨n, A, cap, rfl, by rw [HF.out]; exact HLN.out.symm, by rw [HF.out]; exact own_below HO.out hb1, hb1.mono hbase⟩
 | true =>
  rcases ho.2 with ⟨hv0, h0⟩ | ⟨g, cap', cur, hvv, hbg, hheap, hnc, hcm, hcs, htk⟩
  ·subst h0
   have : l = [] := List.length_eq_zero_iff.1 hln
   subst this
   cases hany
  injection hvv with hA _ hc
  subst hA hc
  have hB : BoxO w 27 g cur.toList := by unfold BoxO; simpa using hheap
  have hcl : cur.toList.length = cap * 5 := by simpa using hcs
  generalize cur.toList = cu at *
  obtain ⟨k0, hk0, hkl, hkP, hkf⟩ := fidx_lt hany
  have hpre := filt_pre hany
  rw [hkf] at hpre
  rw [hk0] at hidx
  have hP0 : Pk cu cu cap k0 (k0 + 1) ((l.take (k0 + 1)).filter fun y => !P y) := by
   rw [hpre]
   exact ⟨hcl, by rw [itc_take, ← htk, List.take_take, Nat.min_eq_left (by omega)], rfl, by rw [List.length_take]; omega⟩
  have HI := Lib.hid hidx
  have HP0 := Lib.hid hP0
  have HB := Lib.hid hB
  have HF := Lib.hid hF
  have HK := Lib.hid hK
  have HTK := Lib.hid htk
  have hkn : k0 < n := by omega
  unfold maxLen at hcm
  clear hidx hP0 hpre hany hkP hkf hk0 hF hK htk hheap ho hB
  go_enter Tryz.func152, Tryz.ntmps152
  go_wp2_with fail
  refine HI.out.mono ?_
  rintro e w1 ⟨rfl, hb1⟩
  have hB1 := HB.out.below hb1
  have hC1 : Chg [g] w w1 := Chg.of_below hb1 [g]
  have e1 : ((k0 : Int) == -1) = false := by rw [beq_eq_false_iff_ne]; omega
  have HB1 := Lib.hid hB1
  clear HI HB hB1 hb1
  go_wp2_with fail
  go_loopw [5, 6] (fun i j wr => ∃ p q : Nat, p < q ∧ q ≤ n ∧ i = .int .i64 (p : Int) ∧ j = .int .i64 (q : Int) ∧ Hid (∃ cs, BoxO wr 27 g cs ∧ Pk cu cs cap p q ((l.take q).filter fun y => !P y)) ∧ Chg [g] w wr) (fun i j _ => n - (intOf j).toNat)
  case atStart => exact ⟨k0, k0 + 1, by omega, by omega, rfl, by go_num, Lib.hid ⟨cu, HB1.out, HP0.out⟩, hC1⟩
  case round =>
   obtain ⟨p, q, hpq, hqn, rfl, rfl, HPK, hC⟩ := hrel
   clear HB1 HP0 hC1 e1
   by_cases hlt : q < n
   ·obtain ⟨cs, hbx, pk⟩ := HPK.out
    have hl : q < l.length := by omega
    have hq : ∀ t v, t < 5 → (l[q]).cells[t]? = some v → wr.cell? ⟨g, q * 5 + t, none⟩ = some v := fun t v ht hv => by
     rw [hbx.cell, show cs[q * 5 + t]? = (cs.drop (q * 5))[t]? by rw [List.getElem?_drop], pk.post, List.getElem?_drop, ← hv, ← itc_get l q t hl ht, ← HTK.out, List.getElem?_take, if_pos (by omega)]
    have hft := filt_take (P := fun y => !P y) hl
    generalize l[q] = y at *
    have d0 := hq 0 _ (by omega) rfl
    rw [Nat.add_zero] at d0
    have d1 := hq 1 _ (by omega) rfl
    have d2 := hq 2 _ (by omega) rfl
    have d3 := hq 3 _ (by omega) rfl
    have d4 := hq 4 _ (by omega) rfl
    have hC2 : Chg [g] w (wr.alloc (.cells #[.int .i64 y.s, .int .i64 y.k, .int .u64 (y.t : Int), .int .u64 (y.v : Int), .int .i64 y.x] 27)) := hC.alloc _
    have hk := HK.out y (wr.alloc (.cells #[.int .i64 y.s, .int .i64 y.k, .int .u64 (y.t : Int), .int .u64 (y.v : Int), .int .i64 y.x] 27)) (fun F hF => by rw [hF _ rfl]; exact hC2)
    have hbn := BoxO.new wr #[.int .i64 y.s, .int .i64 y.k, .int .u64 (y.t : Int), .int .u64 (y.v : Int), .int .i64 y.x] 27
    have hbx2 := hbx.alloc (.cells #[.int .i64 y.s, .int .i64 y.k, .int .u64 (y.t : Int), .int .u64 (y.v : Int), .int .i64 y.x] 27)
    unfold It.val at hk
    obtain ⟨b, hb⟩ : ∃ b, b = P y := ⟨_, rfl⟩
    rw [← hb] at hk
    have HFT := Lib.hid hft
    have HB := Lib.hid hb
    have HPk := Lib.hid pk
    have HKK := Lib.hid hk
    have hqi : (q : Int) < (n : Int) := by omega
    have hpi : (p : Int) < (n : Int) := by omega
    clear hft hb pk hk hq hbx HPK hl
    go_wp2_with fail
    rw [HF.out, Oper.upon_enter]
    refine HKK.out.mono ?_
    rintro e w2 ⟨rfl, hb2⟩
    have hbn2 := hbn.below hb2
    have hbx3 := hbx2.below hb2
    have hC3 : Chg [g] w w2 := hC2.trans (Chg.of_below hb2 []) (fun g hg => by cases hg)
    generalize wr.heap.size = bv at *
    cases b with
    | true =>
     have hpk2 : Pk cu cs cap p (q + 1) ((l.take (q + 1)).filter fun y => !P y) := by
      rw [HFT.out, ← HB.out]
      simpa using HPk.out.skip
     have HPK2 := Lib.hid hpk2
     clear hpk2 d0 d1 d2 d3 d4 HKK hbn hbx2 hC2
     go_wp2
     go_roundw
     case rel => exact ⟨p, q + 1, by omega, by omega, rfl, by go_num, Lib.hid ⟨cs, hbx3, HPK2.out⟩, hC3⟩
     case measure => simp [intOf]; omega
    | false =>
     have hpk2 := HPk.out.keep hpq (by omega) y
     have hpe : ((l.take (q + 1)).filter fun y => !P y) = ((l.take q).filter fun y => !P y) ++ [y] := by
      rw [HFT.out, ← HB.out]
      rfl
     rw [← hpe] at hpk2
     have hB4 := BoxO.stores y.cells (p * 5) w2 cs hbx3 (by have := HPk.out.len; rw [It.cells_len]; omega)
     have hC4 := chg_sets g y.cells (p * 5) w w2 hC3
     have hsome : ∀ t, t < 5 → ∃ u, w2.cell? ⟨g, p * 5 + t, none⟩ = some u := fun t ht => ⟨cs[p * 5 + t]'(by have := HPk.out.len; omega), by rw [hbx3.cell]; exact List.getElem?_eq_getElem _⟩
     obtain ⟨u0, s0⟩ := hsome 0 (by omega)
     obtain ⟨u1, s1⟩ := hsome 1 (by omega)
     obtain ⟨u2, s2⟩ := hsome 2 (by omega)
     obtain ⟨u3, s3⟩ := hsome 3 (by omega)
     obtain ⟨u4, s4⟩ := hsome 4 (by omega)
     have z0 := hbx3.free (p * 5)
     have z1 := hbx3.free (p * 5 + 1)
     have z2 := hbx3.free (p * 5 + 2)
     have z3 := hbx3.free (p * 5 + 3)
     have z4 := hbx3.free (p * 5 + 4)
     have b0 := hbn2.cell 0
     have b1 := hbn2.cell 1
     have b2 := hbn2.cell 2
     have b3 := hbn2.cell 3
     have b4 := hbn2.cell 4
     simp only [gE0, gE1, Nat.add_zero] at b0 b1 b2 b3 b4 s0
     have HPK2 := Lib.hid hpk2
     have HB4 := Lib.hid (And.intro hB4 hC4)
     clear hpk2 hpe hB4 hC4 hsome d0 d1 d2 d3 d4 HKK hbn hbx2 hC2 hbn2 hbx3
     go_wp2
     go_roundw
     case rel => exact ⟨p + 1, q + 1, by omega, by omega, by go_num, by go_num, Lib.hid ⟨_, HB4.out.1, HPK2.out⟩, HB4.out.2⟩
     case measure => simp [intOf]; omega
   ·obtain rfl : q = n := by omega
    obtain ⟨cs, hbx, pk⟩ := HPK.out
    have hpl := pk.pl
    obtain ⟨zs, hzl, hclr⟩ := run_clear_items wr g (p * 5) (q - p) (fun j hj => by rw [hbx.cell, List.getElem?_eq_getElem (by have := pk.len; omega)]; rfl) (fun j hj => hbx.free _)
    obtain ⟨W2, hW2⟩ : ∃ W2, W2 = wr.setCells g (p * 5) zs := ⟨_, rfl⟩
    have hB2 := BoxO.stores zs (p * 5) wr cs hbx (by have := pk.len; omega)
    have hC2 := chg_sets g zs (p * 5) w wr hC
    rw [← hW2] at hB2 hC2
    simp only [← hW2] at hclr
    have hall : (l.take q).filter (fun y => !P y) = l.filter (fun y => !P y) := by rw [List.take_of_length_le (by omega)]
    rw [hall] at pk hpl
    have hfin : W2.ownsRow base 27 5 (.slice (some ⟨g, 0, none⟩) p cap) p (itc (l.filter fun y => !P y)) := by
     refine ⟨by rw [itc_length, hpl], .inr ⟨g, cap, _, rfl, hbg, hB2, by omega, by unfold maxLen; omega, ?_, ?_⟩⟩
     ·have := pk.len
      simp only [List.size_toArray, List.length_append, List.length_take, List.length_drop]
      omega
     ·rw [List.toList_toArray, List.take_append_of_le_length (by have := pk.len; rw [List.length_take]; omega), List.take_take, Nat.min_self, pk.pre]
    have HFIN := Lib.hid (And.intro hpl.symm (And.intro hfin (hC2.below hbase (by simpa using hbg))))
    have hno : ((q : Int) < (q : Int)) = False := eq_false (by omega)
    have hcp : ¬ (cap = p) := by omega
    have hpq2 : (p : Int) ≤ (q : Int) := by omega
    have hpq3 : p ≤ q := by omega
    have hpc : p ≤ cap := by omega
    have hpc2 : (p : Int) ≤ (cap : Int) := by omega
    clear hbx pk hpl hzl hB2 hC2 hall hfin HPK hC hW2
    go_wp2_with fail
    go_ret
    exact ⟨p, _, _, rfl, HFIN.out⟩
end
section
open Go Go.RowKit Go.Lib
theorem add_found {l : List It} (h : Rises l) (x : It) (hk : pos l x < l.length) (hs : It.same l[pos l x] x = true) : beaten l x = !(x.wins l[pos l x]) ∧ put l x = l.set (pos l x) x := by
 refine ⟨?_, put_set h (List.getElem?_eq_getElem hk) hs⟩
 unfold beaten
 cases hw : x.wins l[pos l x] with
 | false => exact List.any_eq_true.2 ⟨_, List.getElem_mem hk, by simp [hs, hw]⟩
 | true =>
  rw [Bool.not_true, List.any_eq_false]
  intro y hy hc
  simp only [Bool.and_eq_true, Bool.not_eq_true'] at hc
  have : y = l[pos l x] := rises_inj h hy (List.getElem_mem hk) (by have := hc.1; rw [It.same_iff] at *; omega)
  rw [this, hw] at hc
  cases hc.2
theorem add_lost {l : List It} (h : Rises l) (x : It) (hs : (l.any fun y => y.same x) = false) : beaten l x = false ∧ put l x = l.take (pos l x) ++ x :: l.drop (pos l x) := by
 rw [List.any_eq_false] at hs
 refine ⟨?_, put_insert h (fun y hy => ?_)⟩
 ·unfold beaten
  rw [List.any_eq_false]
  intro y hy hc
  simp only [Bool.and_eq_true] at hc
  exact hs y hy hc.1
 ·have := hs y (List.mem_of_getElem? hy)
  simpa using this
theorem own_set {base g n cap i : Nat} {l : List It} {w : World} (x : It) (ho : w.ownsRow base 27 5 (.slice (some ⟨g, 0, none⟩) n cap) n (itc l)) (hi : i < n) :
  (w.setCells g (i * 5) x.cells).ownsRow base 27 5 (.slice (some ⟨g, 0, none⟩) n cap) n (itc (l.set i x)) ∧ (∀ t, t < 5 → ∃ u, w.cell? ⟨g, i * 5 + t, none⟩ = some u) ∧ (∀ t, w.frozen? ⟨g, t, none⟩ = false) := by
 have hxl := ho.1
 rw [itc_length] at hxl
 rcases ho.2 with ⟨_, h0⟩ | ⟨g', cap', cur, hvv, hbg, hheap, hnc, hcm, hcs, htk⟩
 ·omega
 injection hvv with hv1 hv2 hv3
 injection hv1 with hv1
 injection hv1 with hv1
 subst hv1 hv3
 have hB : BoxO w 27 g cur.toList := by unfold BoxO; simpa using hheap
 have hcl : cur.toList.length = cap * 5 := by simpa using hcs
 refine ⟨⟨by rw [itc_length, List.length_set]; omega, .inr ⟨g, cap, _, rfl, hbg, BoxO.stores x.cells (i * 5) w _ hB (by rw [It.cells_len]; omega), hnc, hcm, ?_, ?_⟩⟩, fun t ht => ⟨cur.toList[i * 5 + t]'(by omega), by rw [hB.cell]; exact List.getElem?_eq_getElem _⟩, fun t => hB.free t⟩
 ·simp only [List.size_toArray, List.length_append, List.length_take, List.length_drop, It.cells_len]
  omega
 ·have e1 : itc (l.set i x) = (itc l).take (i * 5) ++ (x.cells ++ (itc l).drop ((i + 1) * 5)) := by
   rw [List.set_eq_take_append_cons_drop, if_pos (by omega), itc_append, itc_take, ← itc_drop]
   rfl
  rw [e1, ← htk, List.take_take, Nat.min_eq_left (by omega), List.drop_take, List.toList_toArray, It.cells_len, ← List.append_assoc, ← List.append_assoc, List.take_append, List.take_of_length_le (by simp only [List.length_append, List.length_take, It.cells_len]; omega)]
  congr 2
  ·simp only [List.length_append, List.length_take, It.cells_len]
   omega
  ·rw [show i * 5 + 5 = (i + 1) * 5 by omega]
theorem own_any (A : Option Addr) (n c : Nat) (l : List It) (w : World) (hn : n ≤ 1000000) (hr : Row w.heap.size w A n 5 (itc l)) :
  Calls Tryz.prog 79 #[.slice A n c] w fun e w' => ∃ A' c', e = .returned (.slice A' n c') ∧ w'.ownsRow w.heap.size 27 5 (.slice A' n c') n (itc l) ∧ Below w.heap.size w w' := by
 obtain ⟨i0, hi0, hz0, hz1, hz2⟩ := info_parts info_item
 have HR := Lib.hid hr
 clear hr
 go_enter Tryz.func79, Tryz.ntmps79
 go_wp2_with (at_builtin; refine stop_in ?_)
 refine stop_out (wpList_app0 rfl _ (.tmp 3) _ rfl w.heap.size 27 i0 _ 5 40 Tryz.underlying24 hi0 hz0 hz1 hz2 rfl (by omega) w (Below.refl _ _) (Nat.le_refl _) rfl w.heap.size A n c (itc l) rfl HR.out (itc_one l) (by unfold maxLen; omega) (by omega) ?_)
 intro A' c' w' h1 h2 h3 h4 h5
 go_wp2
 go_ret
 exact ⟨_, _, rfl, h1, h2⟩
theorem add1_any (x y : It) (b : Nat) (w : World) (hb : BoxO w 27 b x.cells) :
  Calls Tryz.prog 153 (#[y.val] ++ #[.pointer (some ⟨b, 0, none⟩)]) w fun e w' => e = .returned (.bool (x.hides y)) ∧ Below w.heap.size w w' := by
 have hh := fun W => ihides_any x y W
 have hbo := (Below.refl w.heap.size w).alloc (Nat.le_refl _) (.cells #[.int .i64 y.s, .int .i64 y.k, .int .u64 (y.t : Int), .int .u64 (y.v : Int), .int .i64 y.x] 27)
 have hb2 := hb.alloc (.cells #[.int .i64 y.s, .int .i64 y.k, .int .u64 (y.t : Int), .int .u64 (y.v : Int), .int .i64 y.x] 27)
 have b0 := hb2.cell 0
 have b1 := hb2.cell 1
 have b2 := hb2.cell 2
 have b3 := hb2.cell 3
 have b4 := hb2.cell 4
 unfold It.val at hh ⊢
 simp only [It.cells, gE0, gE1] at b0 b1 b2 b3 b4
 have HH := Lib.hid hh
 clear hh hb hb2
 go_enter Tryz.func153, Tryz.ntmps153
 go_wp2_with fail
 refine (HH.out _).mono ?_
 rintro e w1 ⟨rfl, hb1⟩
 have hbz := later_ hbo hb1
 go_wp2
 go_ret
 exact ⟨rfl, hbz⟩
theorem strike_any (x : It) (b base : Nat) (A : Option Addr) (n cap : Nat) (l : List It) (w : World) (hn : n ≤ 1000000) (hbase : base ≤ w.heap.size) (ho : w.ownsRow base 27 5 (.slice A n cap) n (itc l)) (hb : BoxO w 27 b x.cells) (hA : (Value.slice A n cap).ownBlock ≠ some b) :
  Calls Tryz.prog 152 #[.slice A n cap, .func (.func 153) #[] #[.pointer (some ⟨b, 0, none⟩)]] w fun e w' => ∃ k A' c', e = .returned (.slice A' k c') ∧ k = (l.filter fun y => !x.hides y).length ∧ w'.ownsRow base 27 5 (.slice A' k c') k (itc (l.filter fun y => !x.hides y)) ∧ Below base w w' := by
 refine delfunc_any 153 (fun _ _ => rfl) #[.pointer (some ⟨b, 0, none⟩)] (fun y => x.hides y) base A n cap l w hn hbase ho (fun y w1 hw => add1_any x y b w1 ?_)
 cases A with
 | none => exact hb.chg (hw [] (fun a ha => by cases ha)) (by simp)
 | some a => exact hb.chg (hw [a.block] (fun a' ha => by injection ha with ha; rw [ha])) (by
   intro h
   exact hA (by rw [List.mem_singleton.1 h]; rfl))
end
end Go.Proofs.YtdkjoigpahafmaaGreatDoor
