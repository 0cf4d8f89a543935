/- Texts DiskJ, DiskK in one. No conditions. -/
import Derived.Test.YthepokgkfaocmaaGreatDoorBunG
import Derived.Test.YthepokgkfaocmaaGreatDoorShelf
import Derived.Lib.MinMax

/-
  The walks of New, Stop, Fail, SyncDir of a disk.
-/
namespace Go.Proofs.YthepokgkfaocmaaGreatDoor
open Go Go.RowKit Go.Maps Go.Shelf

/-- The maps of names have been laid anew, and no turn is left. -/
theorem DK.remap {w w' : World} {X : Dw} {S S' : Sd} (h : DK w X S) {b1 b2 : Nat} (c : Chg [X.d] w w') (hb1 : NamesAt w' b1 S'.names.length S'.names) (hb2 : NamesAt w' b2 S'.lasted.length S'.lasted)
    (h1 : b1 = X.nb ∨ b1 = X.lb ∨ w.heap.size ≤ b1) (h2 : w.heap.size ≤ b2) (h12 : b1 ≠ b2) (hb : BoxO w' 79 X.d (({ X with nb := b1, lb := b2, tv := .slice none 0 0 } : Dw).cells S')) (e3 : S'.files = S.files) (e4 : S'.turns = []) :
    DK w' { X with nb := b1, lb := b2, tv := .slice none 0 0 } S' := by
  have a := h.apart
  have hl := h.lt
  obtain ⟨q, fs, nm, la, tu, ca, de, st, fa⟩ := S'
  simp only at e3 e4
  subst e3 e4
  refine ⟨hb, hb1, hb2, own_chg h.files c (fun g e => by simpa using (a.fv g e).1), fun i hi h3 => (h.file i hi h3).chg c (fun g e => by simpa using (a.ps _ (List.getElem_mem h3) g e).1), ?_, ?_⟩
  · simpa using World.ownsRow_nil _ _ _ _
  · have hnd := h.nodup
    unfold Dw.foot at hnd ⊢
    have hsub : (X.fv.ownBlock.toList ++ X.ps.flatMap fileFoot).Nodup := by
      refine List.Nodup.sublist ?_ hnd
      refine List.Sublist.trans ?_ (List.sublist_append_right _ _)
      refine List.Sublist.trans ?_ (List.sublist_append_right _ _)
      refine List.Sublist.trans ?_ (List.sublist_append_right _ _)
      exact List.Sublist.append (List.Sublist.refl _) (List.sublist_append_right _ _)
    have hmem : ∀ g ∈ X.fv.ownBlock.toList ++ X.ps.flatMap fileFoot, g ≠ X.d ∧ g ≠ X.nb ∧ g ≠ X.lb ∧ g < w.heap.size := fun g hg => by
      rcases List.mem_append.1 hg with h3 | h3
      · have h4 : X.fv.ownBlock = some g := by simpa using h3
        exact ⟨(a.fv g h4).1, (a.fv g h4).2.1, (a.fv g h4).2.2.1, hl g (mem_foot.2 (.inr (.inr (.inr (.inl h4)))))⟩
      · obtain ⟨p, hp, hgp⟩ := List.mem_flatMap.1 h3
        exact ⟨(a.ps p hp g hgp).1, (a.ps p hp g hgp).2.1, (a.ps p hp g hgp).2.2.1, hl g (mem_foot.2 (.inr (.inr (.inr (.inr (.inr ⟨p, hp, hgp⟩))))))⟩
    have hd := h.box.lt
    have hb1lt : b1 ≠ X.d := by
      rcases h1 with h1 | h1 | h1
      · rw [h1]; exact a.d_nb.symm
      · rw [h1]; exact a.d_lb.symm
      · omega
    have hno : (Value.slice none 0 0).ownBlock.toList = [] := rfl
    simp only [hno, List.nil_append, List.singleton_append]
    refine List.nodup_cons.2 ⟨fun hm => ?_, List.nodup_cons.2 ⟨fun hm => ?_, List.nodup_cons.2 ⟨fun hm => ?_, hsub⟩⟩⟩
    · rcases List.mem_cons.1 hm with h3 | hm
      · exact hb1lt h3.symm
      · rcases List.mem_cons.1 hm with h3 | hm
        · omega
        · exact (hmem _ hm).1 rfl
    · rcases List.mem_cons.1 hm with h3 | hm
      · exact h12 h3
      · obtain ⟨m1, m2, m3, m4⟩ := hmem _ hm
        rcases h1 with h1 | h1 | h1
        · exact m2 h1
        · exact m3 h1
        · omega
    · have := (hmem _ hm).2.2.2
      omega

set_option maxRecDepth 100000 in
set_option maxHeartbeats 1000000 in
theorem syncDir_any (X : Dw) (S : Sd) (hw : S.Wf) (w : World) (h : DK w X S) :
    Calls Tryz.prog 70 #[.pointer (some ⟨X.d, 0, none⟩)] w fun e w' => e = .returned (.int .i64 ((S.syncDir).2 : Int)) ∧ Upd X w w' (S.syncDir).1 := by
  have hcall := call_any X S none 0 0 [] (by omega) (by simp) hw.stop hw.fail w h Row.nil_
  have hte : texts [] = [] := rfl
  rw [hte] at hcall
  obtain ⟨e1, e2, e3, e4, e5, _, _⟩ := Sd.call_same S []
  have hsy : S.syncDir = if (S.call []).2 ≠ 0 then S.call [] else ({ (S.call []).1 with lasted := S.names, turns := [] }, 0) := rfl
  generalize S.call [] = R at *
  obtain ⟨S1, er⟩ := R
  simp only at *
  by_cases h0 : er = 0
  · subst h0
    rw [if_neg (by simp)] at hsy
    rw [hsy, ← e1]
    clear hsy e1 e2 e3 e4 e5 h hte
    go_enter Tryz.func70, Tryz.ntmps70
    go_wp2_with fail
    refine hcall.mono ?_
    rintro e w1 ⟨rfl, h1, hc1⟩
    have d2 := h1.box.cell 2
    simp only [Dw.cells, List.getElem?_cons_zero, List.getElem?_cons_succ] at d2
    have hcl := AnyW.maps_Clone_owns Tryz.clone60 9 (plainElem (H := Unit) Tryz.prog 3) X.nb _ _ w1 h1.names
    go_wp2_with fail
    refine hcl.mono ?_
    rintro e w2 ⟨rfl, hn2, hn1, hb2⟩
    have h2 := h1.below hb2
    have d3 := h2.box.cell 3
    have d4 := h2.box.cell 4
    have f3 := h2.box.free 3
    have f4 := h2.box.free 4
    simp only [Dw.cells, List.getElem?_cons_zero, List.getElem?_cons_succ] at d3 d4
    have hbx := (h2.box.store 3 (.map (some w1.heap.size))).store 4 (.slice none 0 0)
    have hcs : Chg [X.d] w1 ((w2.setCell ⟨X.d, 3, none⟩ (.map (some w1.heap.size))).setCell ⟨X.d, 4, none⟩ (.slice none 0 0)) := ((Chg.of_below hb2 [X.d]).setCell _ (.inl (by simp))).setCell _ (.inl (by simp))
    have hcs2 : Chg [X.d] w2 ((w2.setCell ⟨X.d, 3, none⟩ (.map (some w1.heap.size))).setCell ⟨X.d, 4, none⟩ (.slice none 0 0)) := ((Chg.refl [X.d] w2).setCell _ (.inl (by simp))).setCell _ (.inl (by simp))
    have hlt := h1.box.lt
    have hnlt := h1.names.lt
    have hdk := DK.remap (b1 := X.nb) (b2 := w1.heap.size) (S' := { S1 with lasted := S1.names, turns := [] }) h1 hcs (map_chg hn1 hcs2 (by simpa using h1.apart.d_nb.symm)) (map_chg hn2 hcs2 (by simp; omega)) (.inl rfl) (Nat.le_refl _) (by omega) hbx rfl rfl
    have hup : Upd X w _ _ := Upd.after hc1 ⟨{ X with nb := X.nb, lb := w1.heap.size, tv := .slice none 0 0 }, rfl, hdk, hcs.mono (fun g hg => .inl (by rw [List.mem_singleton.1 hg]; exact mem_foot.2 (.inl rfl))), fun g hg => by
      rcases mem_foot.1 hg with h5 | h5 | h5 | h5 | h5 | h5
      · exact .inl (mem_foot.2 (.inl h5))
      · exact .inl (mem_foot.2 (.inr (.inl h5)))
      · exact .inr (Nat.le_of_eq (show g = w1.heap.size from h5).symm)
      · exact .inl (mem_foot.2 (.inr (.inr (.inr (.inl h5)))))
      · cases h5
      · exact .inl (mem_foot.2 (.inr (.inr (.inr (.inr (.inr h5))))))⟩
    have HU := Lib.hid hup
    clear hup hdk hcs hcs2 hbx hn2 hn1 hb2 h2 h1 hcl hc1
    go_wp2
    go_ret
    exact ⟨rfl, HU.out⟩
  · have hne := neq0 h0
    rw [if_pos h0] at hsy
    rw [hsy]
    clear hsy e1 e2 e3 e4 e5 h0 hte
    go_enter Tryz.func70, Tryz.ntmps70
    go_wp2_with fail
    refine hcall.mono ?_
    rintro e w1 ⟨rfl, h1, hc1⟩
    go_wp2
    go_ret
    exact ⟨rfl, Upd.called h1 hc1⟩

theorem emptyNames {w : World} {b : Nat} (hb : w.heap[b]? = some (.map #[] 0)) : NamesAt w b 0 [] := by
  have h := (World.ownsMap_made (H := Unit) w Tryz.prog 9 (plainElem (H := Unit) Tryz.prog 3))
  obtain ⟨es, clock, h1, F, hs, hD⟩ := h
  rw [heap_alloc_new] at h1
  injection h1 with h1
  injection h1 with h1 h2
  subst h1 h2
  exact ⟨#[], 0, hb, F, hs, hD⟩
set_option maxRecDepth 100000 in
set_option maxHeartbeats 1000000 in
theorem dnew_any (q : Int) (w : World) : Calls Tryz.prog 11 #[.int .i64 q] w fun e w' => ∃ X : Dw, e = .returned (.pointer (some ⟨X.d, 0, none⟩)) ∧ DK w' X (Sd.new q) ∧ Below w.heap.size w w' ∧ ∀ g ∈ X.foot, w.heap.size ≤ g := by
  have hmm := @run_makeMap Tryz.prog
  go_enter Tryz.func11, Tryz.ntmps11
  go_wp2
  generalize hob : (Obj.cells #[.int .i64 (max q 0), .slice none 0 0, .map (some w.heap.size), .map (some (w.heap.size + 1)), .slice none 0 0, .int .i64 0, .bool false, .int .i64 0, .int .i64 0] 79) = ob
  have hq0 : ((q.toNat : Nat) : Int) = max q 0 := by omega
  have hs1 : ((w.alloc (.map #[] 0)).alloc (.map #[] 0)).heap.size = w.heap.size + 2 := by simp
  have hn1 : NamesAt (((w.alloc (.map #[] 0)).alloc (.map #[] 0)).alloc ob) w.heap.size 0 [] := emptyNames (by
    rw [Below.heap_alloc _ _ _ (by simp; omega), Below.heap_alloc _ _ _ (by simp)]
    exact (MapKept.heap_alloc w _).1)
  have hn2 : NamesAt (((w.alloc (.map #[] 0)).alloc (.map #[] 0)).alloc ob) (w.heap.size + 1) 0 [] := emptyNames (by
    rw [Below.heap_alloc _ _ _ (by simp)]
    have := (MapKept.heap_alloc (w.alloc (.map #[] 0)) (.map #[] 0)).1
    simpa using this)
  have hbx : BoxO (((w.alloc (.map #[] 0)).alloc (.map #[] 0)).alloc ob) 79 (w.heap.size + 2) (({ d := w.heap.size + 2, nb := w.heap.size, lb := w.heap.size + 1, fv := .slice none 0 0, tv := .slice none 0 0, ps := [] } : Dw).cells (Sd.new q)) := by
    have h1 := BoxO.new ((w.alloc (.map #[] 0)).alloc (.map #[] 0)) #[.int .i64 (max q 0), .slice none 0 0, .map (some w.heap.size), .map (some (w.heap.size + 1)), .slice none 0 0, .int .i64 0, .bool false, .int .i64 0, .int .i64 0] 79
    rw [hob, hs1] at h1
    unfold Dw.cells Sd.new
    simp only [hq0]
    exact h1
  have hB : Below w.heap.size w (((w.alloc (.map #[] 0)).alloc (.map #[] 0)).alloc ob) := (((Below.refl _ _).alloc (Nat.le_refl _) _).alloc (by simp) _).alloc (by simp; omega) _
  have hft : ∀ g ∈ ({ d := w.heap.size + 2, nb := w.heap.size, lb := w.heap.size + 1, fv := .slice none 0 0, tv := .slice none 0 0, ps := [] } : Dw).foot, w.heap.size ≤ g := fun g hg => by
    rcases mem_foot.1 hg with h | h | h | h | h | ⟨p, hp, _⟩
    · simp only at h; omega
    · simp only at h; omega
    · simp only at h; omega
    · simp [Value.ownBlock] at h
    · simp [Value.ownBlock] at h
    · cases hp
  have hdk : DK (((w.alloc (.map #[] 0)).alloc (.map #[] 0)).alloc ob) { d := w.heap.size + 2, nb := w.heap.size, lb := w.heap.size + 1, fv := .slice none 0 0, tv := .slice none 0 0, ps := [] } (Sd.new q) :=
    ⟨hbx, hn1, hn2, World.ownsRow_nil _ _ _ _, fun i hi => (by simp [Sd.new] at hi), World.ownsRow_nil _ _ _ _, by simp [Dw.foot, Value.ownBlock]⟩
  go_ret
  exact ⟨_, rfl, hdk, hB, hft⟩
theorem stop_any (X : Dw) (S : Sd) (n : Int) (w : World) (h : DK w X S) : Calls Tryz.prog 32 #[.pointer (some ⟨X.d, 0, none⟩), .int .i64 n] w fun e w' => e = .returned (.tuple #[]) ∧ DK w' X (S.setStop n) ∧ Chg [X.d] w w' := by
  have d6 := h.box.cell 6
  have d7 := h.box.cell 7
  have f6 := h.box.free 6
  have f7 := h.box.free 7
  simp only [Dw.cells, List.getElem?_cons_zero, List.getElem?_cons_succ] at d6 d7
  have hbx := (h.box.store 7 (.int .i64 (max n 0))).store 6 (.bool (S.dead || decide (n = 0)))
  have hc : Chg [X.d] w ((w.setCell ⟨X.d, 7, none⟩ (.int .i64 (max n 0))).setCell ⟨X.d, 6, none⟩ (.bool (S.dead || decide (n = 0)))) := ((Chg.refl [X.d] w).setCell _ (.inl (by simp))).setCell _ (.inl (by simp))
  have hq0 : ((n.toNat : Nat) : Int) = max n 0 := by omega
  have hdk := h.rebox (S' := S.setStop n) hc (by
    unfold Dw.cells Sd.setStop
    simp only [hq0]
    exact hbx) rfl rfl rfl rfl
  have HK := Lib.hid (And.intro hdk hc)
  clear hdk hc hbx hq0 h
  cases hd : S.dead with
  | true =>
    rw [hd] at d6 HK
    simp only [Bool.true_or] at HK
    clear hd
    go_enter Tryz.func32, Tryz.ntmps32
    go_wp2
    exact bodyPost_end (v := .tuple #[]) (by simp [results, go_sem]) rfl ⟨rfl, HK.out⟩
  | false =>
    rw [hd] at d6 HK
    clear hd
    by_cases hn : n = 0
    · subst hn
      simp only [Bool.false_or, decide_true] at HK
      go_enter Tryz.func32, Tryz.ntmps32
      go_wp2
      exact bodyPost_end (v := .tuple #[]) (by simp [results, go_sem]) rfl ⟨rfl, HK.out⟩
    · have hn1 : (n == 0) = false := by simpa using hn
      simp only [Bool.false_or, decide_eq_false hn] at HK
      clear hn
      go_enter Tryz.func32, Tryz.ntmps32
      go_wp2
      exact bodyPost_end (v := .tuple #[]) (by simp [results, go_sem]) rfl ⟨rfl, HK.out⟩
theorem fail_any (X : Dw) (S : Sd) (n : Int) (w : World) (h : DK w X S) : Calls Tryz.prog 29 #[.pointer (some ⟨X.d, 0, none⟩), .int .i64 n] w fun e w' => e = .returned (.tuple #[]) ∧ DK w' X (S.setFail n) ∧ Chg [X.d] w w' := by
  have d8 := h.box.cell 8
  have f8 := h.box.free 8
  simp only [Dw.cells, List.getElem?_cons_zero, List.getElem?_cons_succ] at d8
  have hbx := h.box.store 8 (.int .i64 (max n 0))
  have hc : Chg [X.d] w (w.setCell ⟨X.d, 8, none⟩ (.int .i64 (max n 0))) := (Chg.refl [X.d] w).setCell _ (.inl (by simp))
  have hq0 : ((n.toNat : Nat) : Int) = max n 0 := by omega
  have hdk := h.rebox (S' := S.setFail n) hc (by
    unfold Dw.cells Sd.setFail
    simp only [hq0]
    exact hbx) rfl rfl rfl rfl
  have HK := Lib.hid (And.intro hdk hc)
  clear hdk hc hbx hq0 h
  go_enter Tryz.func29, Tryz.ntmps29
  go_wp2
  exact bodyPost_end (v := .tuple #[]) (by simp [results, go_sem]) rfl ⟨rfl, HK.out⟩
end Go.Proofs.YthepokgkfaocmaaGreatDoor

/-
  The walk of List of a disk.
-/
namespace Go.Proofs.YthepokgkfaocmaaGreatDoor
open Go Go.RowKit Go.Maps Go.Sort Go.Shelf

theorem sorts_in (m : Nat) : AnyZ.SortsIn Tryz.prog Tryz.sorted55_ren Fence.wide m :=
  ⟨fun blk off cap ss W hH hblk hsz => callsIn_wide.2 (AnyM.slices_Sort_string Tryz.sort89 blk off cap ss W hH hblk hsz),
   fun p cap W => callsIn_wide.2 (AnyM.slices_Sort_string_none Tryz.sort89 p cap W)⟩
theorem keys_call (mb : Option Nat) (W : World) : CallsIn Fence.wide 5 Tryz.prog 56 #[.map mb] W fun e w' => e = .returned (.func (.func 90) #[] #[.pointer (some ⟨W.heap.size, 0, none⟩)]) ∧ w' = W.alloc (.cells #[.map mb] 70) :=
  AnyZ.keys_in Tryz.keys56 Fence.wide 5 trivial rfl mb W
set_option maxHeartbeats 1000000 in
theorem sorted_call {H : Type} (b nn : Nat) (D0 : DataW H) (R : Value → Option (DataW H × List MemPlace)) (w : World) (hown : w.ownsMap Tryz.prog 9 R b nn D0) (hmax : Maps.size D0 ≤ maxLen) (hbytes : Maps.size D0 * 16 ≤ 140737488355328) :
    CallsIn Fence.wide 5 Tryz.prog 55 #[.func (.func 90) #[] #[.pointer (some ⟨w.heap.size, 0, none⟩)]] (w.alloc (.cells #[.map (some b)] 70)) fun e w' => ∃ (v : Value) (ss : List (List UInt8)), e = .returned v ∧ ss.Perm (strKeys D0) ∧
      w'.ownsRow (w.alloc (.cells #[.map (some b)] 70)).heap.size 9 1 v ss.length ((ss.mergeSort (fun x y => decide (x ≤ y))).map encStr) ∧ (v = .slice none 0 0 ↔ ss = []) ∧ Below (w.alloc (.cells #[.map (some b)] 70)).heap.size (w.alloc (.cells #[.map (some b)] 70)) w' := by
  have hbl := hown.lt
  have hseq : SeqGives Fence.wide 2 Tryz.prog 90 #[.pointer (some ⟨w.heap.size, 0, none⟩)] encStr (fun ss => ss.Perm (strKeys D0)) (Maps.size D0) (w.alloc (.cells #[.map (some b)] 70)) :=
    AnyZ.keys_gives (ρ := Tryz.keys56_ren) { Tryz.keys56 with } Fence.wide _ trivial rfl (by omega) w.heap.size b nn D0 _ (by simp) (by simp) (by
      obtain ⟨es, clock, hb, Ft, hs, hD⟩ := hown
      exact ⟨es, clock, (Below.heap_alloc _ _ b hbl).trans hb, Ft, hs, hD⟩)
  exact AnyZ.sorted_in Tryz.sorted55 Fence.wide 5 trivial trivial trivial trivial rfl (by omega) (sorts_in _) (enters_of Tryz.func89 (by kernel_rfl) rfl) 90 #[.pointer (some ⟨w.heap.size, 0, none⟩)] trivial (enters_of Tryz.func90 (by kernel_rfl) rfl) _ _ hmax hbytes _ hseq
theorem strKeys_enc (m : Nm) : strKeys (Nm.enc m) = m.map (·.1) := by simp [Nm.enc, strKeys, Nm.lit1, strOf]

set_option maxRecDepth 100000 in
set_option maxHeartbeats 1000000 in
theorem dlist_any (X : Dw) (S : Sd) (hw : S.Wf) (w : World) (h : DK w X S) : Calls Tryz.prog 28 #[.pointer (some ⟨X.d, 0, none⟩)] w fun e w' =>
    ∃ A c, e = .returned (.slice A S.list.length c) ∧ w'.ownsRow w.heap.size 9 1 (.slice A S.list.length c) S.list.length (S.list.map encStr) ∧ Below w.heap.size w w' := by
  have d6 := h.box.cell 6
  have d2 := h.box.cell 2
  simp only [Dw.cells, List.getElem?_cons_zero, List.getElem?_cons_succ] at d2 d6
  have hdd := dead_any X.d S.dead w d6
  cases hd : S.dead with
  | true =>
    have hli : S.list = [] := by simp [Sd.list, hd]
    rw [hli]
    rw [hd] at hdd
    clear hd hli d6 d2
    go_enter Tryz.func28, Tryz.ntmps28
    go_wp2_with fail
    refine hdd.mono ?_
    rintro e w1 ⟨rfl, rfl⟩
    go_wp2
    go_ret
    exact ⟨_, _, rfl, World.ownsRow_nil _ _ _ _, Below.refl _ _⟩
  | false =>
    have hli : S.list = (S.names.map (·.1)).mergeSort fun x y => decide (x ≤ y) := by simp [Sd.list, hd]
    have hn := h.names
    have hsz := Nm.enc_size S.names
    have hm := hw.most
    rw [hd] at hdd
    have HL := Lib.hid hli
    obtain ⟨L, hL⟩ : ∃ L, L = S.list := ⟨_, rfl⟩
    rw [← hL]
    have HLL := Lib.hid hL
    clear hd hli d6 hL
    have hcall := fun w0 (hn0 : NamesAt w0 X.nb S.names.length S.names) => sorted_call X.nb _ _ _ w0 hn0 (by rw [hsz]; unfold maxLen; omega) (by rw [hsz]; omega)
    clear hsz
    have HC := Lib.hid hcall
    clear hcall
    refine (callsIn_wide (n := 6)).1 ?_
    have hfK : Fence.wide.fn 56 := trivial
    have hfS : Fence.wide.fn 55 := trivial
    have hfD : Fence.wide.fn 33 := trivial
    refine callsIn_of_wp Tryz.func28 rfl trivial ?_ rfl
    simp only [Tryz.ntmps28, List.size_toArray, List.length_cons, List.length_nil, Nat.reduceAdd, Nat.reduceSub, Array.replicate_succ, Array.replicate_zero, List.push_toArray, List.append_toArray, List.nil_append, List.cons_append]
    gi_wp2_with (first
      | (gi_at_call 33; refine (callsIn_wide.2 hdd).mono ?_; rintro e w' ⟨rfl, rfl⟩)
      | (gi_at_call 56; refine (keys_call _ _).mono ?_; rintro e w' ⟨rfl, rfl⟩)
      | (gi_at_call 55; refine (HC.out _ hn).mono ?_; rintro e w' ⟨v, ss, rfl, hS, hrow, hnil, hb⟩))
    have e1 : L = ss.mergeSort (fun x y => decide (x ≤ y)) := by
      rw [strKeys_enc] at hS
      rw [show L = _ from HLL.out, show S.list = _ from HL.out]
      exact (mergeSort_of_perm hS).symm
    have e2 : ss.length = L.length := by rw [e1, List.length_mergeSort]
    rw [← e1, e2] at hrow
    obtain ⟨A, c, rfl, _⟩ := own_form hrow
    go_ret
    exact ⟨_, _, rfl, own_base hrow (by simp), ((Below.refl _ w).alloc (Nat.le_refl _) _).trans (hb.mono (by simp))⟩
end Go.Proofs.YthepokgkfaocmaaGreatDoor
