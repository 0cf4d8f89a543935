/- Texts DiskE, DiskJ, DiskK, ManA, Step, DiskF, DiskG in one. No conditions. -/
import Derived.Test.YthepokgkfaocmaaGreatDoorBunAE
import Derived.Test.YthepokgkfaocmaaGreatDoorBunAA
import Derived.Test.YthepokgkfaocmaaGreatDoorShelf
import Derived.Lib.MinMax
import Derived.Lib.LaidTab
import Derived.Lib.SmallJoins
import Derived.Lib.AppendIntMem
import Derived.Lib.ItoaLen
import Derived.Test.YthepokgkfaocmaaGreatDoorBunAC
import Derived.Deep.RegionLaw
import Derived.StillTailTactics

/-
  The walks of Read, Sync, Stop, Fail, New of a disk.
-/
namespace Go.Proofs.YthepokgkfaocmaaGreatDoor
open Go Go.RowKit Go.Maps

theorem texts1 (s : ByteArray) : texts [s] = [s.data.toList] := rfl
theorem call1 (X : Dw) (S : Sd) (s : ByteArray) (hs : s.size ≤ maxLen) (hw : S.Wf) (w : World) (h : DK w X S) :
    Calls Tryz.prog 47 #[.pointer (some ⟨X.d, 0, none⟩), .slice (some ⟨w.heap.size, 0, none⟩) 1 1] (w.alloc (.cells #[.string s] 9)) fun e w' => e = .returned (.int .i64 ((S.call [s.data.toList]).2 : Int)) ∧ DK w' X (S.call [s.data.toList]).1 ∧ Chg [X.d] w w' := by
  have hb : Below w.heap.size w (w.alloc (.cells #[.string s] 9)) := (Below.refl _ _).alloc (Nat.le_refl _) _
  refine (call_any X S (some ⟨w.heap.size, 0, none⟩) 1 1 [s] (by omega) (by simpa using hs) hw.stop hw.fail _ (h.below hb) ?_).mono ?_
  · exact (Row.new w #[.string s] 9 (n := 1) (size := 1) rfl).up (by simp)
  · rintro e w' ⟨rfl, h1, h2⟩
    exact ⟨rfl, h1, (Chg.of_below hb [X.d]).trans h2 (fun g hg => .inl hg)⟩

set_option maxRecDepth 100000 in
set_option maxHeartbeats 1000000 in
theorem read_any (X : Dw) (S : Sd) (s : ByteArray) (hs : s.size ≤ maxLen) (hw : S.Wf) (w : World) (h : DK w X S) :
    Calls Tryz.prog 13 #[.pointer (some ⟨X.d, 0, none⟩), .string s] w fun e w' => ∃ A c, e = .returned (.tuple #[.slice A (S.read s.data.toList).1.length c, .int .i64 ((S.read s.data.toList).2 : Int)]) ∧
      w'.ownsRow w.heap.size 5 1 (.slice A (S.read s.data.toList).1.length c) (S.read s.data.toList).1.length (bts (S.read s.data.toList).1) ∧ Below w.heap.size w w' := by
  have nil := fun W : World => World.ownsRow_nil W w.heap.size 5 1
  have hnm := named_any s hs w
  have hdd := dead_any X.d S.dead w (by rw [h.box.cell 6]; rfl)
  have hfd := find_any X S s hs w h hw.names
  cases h1 : Sd.named s.data.toList with
  | false =>
    have e1 : S.read s.data.toList = ([], 10) := by simp [Sd.read, h1]
    rw [e1]
    rw [h1] at hnm
    clear h1 e1
    go_enter Tryz.func13, Tryz.ntmps13
    go_wp2_with fail
    refine hnm.mono ?_
    rintro e w1 ⟨rfl, rfl⟩
    go_wp2
    go_ret2
    exact ⟨_, _, rfl, nil w, Below.refl _ _⟩
  | true =>
    rw [h1] at hnm
    cases h2 : S.dead with
    | true =>
      have e1 : S.read s.data.toList = ([], 50) := by simp [Sd.read, h1, h2]
      rw [e1]
      rw [h2] at hdd
      clear h1 h2 e1
      go_enter Tryz.func13, Tryz.ntmps13
      go_wp2_with fail
      refine hnm.mono ?_
      rintro e w1 ⟨rfl, rfl⟩
      go_wp2_with fail
      refine hdd.mono ?_
      rintro e w1 ⟨rfl, rfl⟩
      go_wp2
      go_ret2
      exact ⟨_, _, rfl, nil w, Below.refl _ _⟩
    | false =>
      rw [h2] at hdd
      cases h3 : S.names.get s.data.toList with
      | none =>
        have e1 : S.read s.data.toList = ([], 11) := by simp [Sd.read, h1, h2, h3]
        rw [e1]
        rw [h3] at hfd
        clear h1 h2 h3 e1
        go_enter Tryz.func13, Tryz.ntmps13
        go_wp2_with fail
        refine hnm.mono ?_
        rintro e w1 ⟨rfl, rfl⟩
        go_wp2_with fail
        refine hdd.mono ?_
        rintro e w1 ⟨rfl, rfl⟩
        go_wp2_with fail
        refine hfd.mono ?_
        rintro e w1 ⟨rfl, rfl⟩
        go_wp2
        go_ret2
        exact ⟨_, _, rfl, nil w, Below.refl _ _⟩
      | some i =>
        have hi : i < S.files.length := hw.names _ (Nm.get_mem h3)
        have hip : i < X.ps.length := by rw [h.flen]; exact hi
        have e1 : S.read s.data.toList = (S.files[i].1, 0) := by simp [Sd.read, h1, h2, h3, hi]
        rw [e1]
        rw [h3] at hfd
        have hptr : X.ps.getD i (0, Go.undef) = X.ps[i] := by simp [List.getD_eq_getElem?_getD, hip]
        simp only [hptr, ptrV] at hfd
        obtain ⟨hfb, hfr⟩ := h.file i hi hip
        have hlen := (hw.file i hi).2
        generalize S.files[i] = f at *
        generalize X.ps[i] = p at *
        have e0 := hfb.cell 0
        simp only [List.getElem?_cons_zero] at e0
        obtain ⟨fA, fc, hfv2, _, _, _⟩ := own_form hfr
        rw [hfv2] at e0 hfr
        have hrow := Row.own hfr
        obtain ⟨i0, hi0, hz0, hz1, hz2⟩ := info_parts info_u8
        clear h1 h2 h3 e1 hptr hfv2
        go_enter Tryz.func13, Tryz.ntmps13
        go_wp2_with fail
        refine hnm.mono ?_
        rintro e w1 ⟨rfl, rfl⟩
        go_wp2_with fail
        refine hdd.mono ?_
        rintro e w1 ⟨rfl, rfl⟩
        go_wp2_with fail
        refine hfd.mono ?_
        rintro e w1 ⟨rfl, rfl⟩
        go_wp2_with fail
        refine hfd.mono ?_
        rintro e w1 ⟨rfl, rfl⟩
        go_wp2_with (at_builtin; refine stop_in ?_)
        refine stop_out (wpList_app0 rfl (.const (.slice none 0 0)) (.tmp 23) _ rfl w.heap.size 5 i0 _ 1 1 Tryz.underlying32 hi0 hz0 hz1 hz2 rfl (by omega) w (Below.refl _ _) (Nat.le_refl _) rfl w.heap.size fA f.1.length fc (bts f.1) rfl hrow (bts_one _) (by unfold maxLen; omega) (by omega) ?_)
        intro A2 c2 w2 hown2 hb2 _ _ _
        go_wp2
        go_ret2
        exact ⟨_, _, rfl, hown2, hb2⟩

theorem Upd.after {X : Dw} {w w1 w2 : World} {S2 : Sd} (h1 : Chg [X.d] w w1) (h2 : Upd X w1 w2 S2) : Upd X w w2 S2 := by
  obtain ⟨X', e, h, c, hf⟩ := h2
  refine ⟨X', e, h, (h1.mono (fun g hg => .inl ?_)).trans c (fun g hg => .inl hg), fun g hg => ?_⟩
  · rw [List.mem_singleton.1 hg]
    exact mem_foot.2 (.inl rfl)
  · rcases hf g hg with h3 | h3
    · exact .inl h3
    · exact .inr (Nat.le_trans h1.size h3)
theorem Upd.called {X : Dw} {w w1 : World} {S1 : Sd} (h : DK w1 X S1) (h1 : Chg [X.d] w w1) : Upd X w w1 S1 := Upd.after h1 (Upd.same h (Chg.refl _ _))
theorem ret_int {k : IntKind} {a b : Int} (h : a = b) : Ending.returned (.int k a) = .returned (.int k b) := by rw [h]
theorem neq0 {n : Nat} (h : n ≠ 0) : (((n : Int) != 0)) = true := by simp [h]
theorem file_foot {X : Dw} {i : Nat} (hi : i < X.ps.length) {g : Nat} (hg : g ∈ fileFoot X.ps[i]) : g ∈ X.foot := mem_foot.2 (.inr (.inr (.inr (.inr (.inr ⟨_, List.getElem_mem hi, hg⟩)))))
theorem foot_set {X : Dw} {i : Nat} (hi : i < X.ps.length) {v : Value} {n : Nat} (hv : ∀ g, v.ownBlock = some g → (X.ps[i]).2.ownBlock = some g ∨ n ≤ g) : ∀ g ∈ ({ X with ps := X.ps.set i ((X.ps[i]).1, v) } : Dw).foot, g ∈ X.foot ∨ n ≤ g := by
  intro g hg
  rcases mem_foot.1 hg with h | h | h | h | h | ⟨p, hp, hgp⟩
  · exact .inl (mem_foot.2 (.inl h))
  · exact .inl (mem_foot.2 (.inr (.inl h)))
  · exact .inl (mem_foot.2 (.inr (.inr (.inl h))))
  · exact .inl (mem_foot.2 (.inr (.inr (.inr (.inl h)))))
  · exact .inl (mem_foot.2 (.inr (.inr (.inr (.inr (.inl h))))))
  · rcases List.mem_or_eq_of_mem_set hp with h1 | h1
    · exact .inl (mem_foot.2 (.inr (.inr (.inr (.inr (.inr ⟨p, h1, hgp⟩))))))
    · subst h1
      simp only [fileFoot, List.mem_cons, Option.mem_toList] at hgp
      rcases hgp with h2 | h2
      · exact .inl (file_foot hi (by simp [fileFoot, h2]))
      · rcases hv g h2 with h3 | h3
        · exact .inl (file_foot hi (by simp [fileFoot, h3]))
        · exact .inr h3

set_option maxRecDepth 100000 in
set_option maxHeartbeats 1000000 in
theorem sync_any (X : Dw) (S : Sd) (s : ByteArray) (hs : s.size ≤ maxLen) (hw : S.Wf) (w : World) (h : DK w X S) :
    Calls Tryz.prog 45 #[.pointer (some ⟨X.d, 0, none⟩), .string s] w fun e w' => e = .returned (.int .i64 ((S.sync s.data.toList).2 : Int)) ∧ Upd X w w' (S.sync s.data.toList).1 := by
  have hcall := call1 X S s hs hw w h
  have hw1 := hw.call [s.data.toList]
  obtain ⟨e1, e2, e3, e4, e5, _, _⟩ := Sd.call_same S [s.data.toList]
  have hsy : S.sync s.data.toList = if (S.call [s.data.toList]).2 ≠ 0 then S.call [s.data.toList] else match S.names.get s.data.toList with
    | none => ((S.call [s.data.toList]).1, 11)
    | some i => ({ (S.call [s.data.toList]).1 with files := S.files.set i ((S.files.getD i ([], 0)).1, S.size i) }, 0) := rfl
  generalize S.call [s.data.toList] = R at *
  obtain ⟨S1, er⟩ := R
  simp only at *
  by_cases h0 : er = 0
  · subst h0
    rw [if_neg (by simp)] at hsy
    have hfd := fun w1 h1 => find_any X S1 s hs w1 h1 hw1.names
    cases h3 : S.names.get s.data.toList with
    | none =>
      simp only [h3] at hsy
      rw [hsy]
      simp only [e1, h3] at hfd
      clear hsy h3 e1 e2 e3 e4 e5 hw1 hw h
      go_enter Tryz.func45, Tryz.ntmps45
      go_wp2_with fail
      refine hcall.mono ?_
      rintro e w1 ⟨rfl, h1, hc1⟩
      go_wp2_with fail
      refine (hfd w1 h1).mono ?_
      rintro e w2 ⟨rfl, rfl⟩
      go_wp2
      go_ret
      exact ⟨rfl, Upd.called h1 hc1⟩
    | some i =>
      simp only [h3] at hsy
      rw [hsy]
      simp only [e1, h3] at hfd
      have hi : i < S1.files.length := by rw [e3]; exact hw.names _ (Nm.get_mem h3)
      have hsz : S.size i = (S1.files[i]).1.length := by simp [Sd.size, ← e3, List.getD_eq_getElem?_getD, hi]
      have hgd : (S.files.getD i ([], 0)).1 = (S1.files[i]).1 := by simp [← e3, List.getD_eq_getElem?_getD, hi]
      have hlen := (hw1.file i hi).2
      obtain ⟨f, hf⟩ : ∃ f, f = S1.files[i] := ⟨_, rfl⟩
      rw [← hf] at hsz hgd hlen
      have HE : Hid (({ S1 with files := S.files.set i ((S.files.getD i ([], 0)).1, S.size i) } : Sd) = { S1 with files := S1.files.set i (f.1, f.1.length) }) := by
        rw [hsz, hgd, ← e3]; exact rfl
      rw [HE.out]
      have HF := Lib.hid hf
      clear hf hsy h3 e1 e2 e4 e5 e3 hsz hgd hw HE h
      go_enter Tryz.func45, Tryz.ntmps45
      go_wp2_with fail
      refine hcall.mono ?_
      rintro e w1 ⟨rfl, h1, hc1⟩
      go_wp2_with fail
      have hip : i < X.ps.length := by rw [h1.flen]; exact hi
      have hptr : X.ps.getD i (0, Go.undef) = X.ps[i] := by simp [List.getD_eq_getElem?_getD, hip]
      refine (hfd w1 h1).mono ?_
      rintro e w2 ⟨rfl, rfl⟩
      rw [hptr]
      have hfile : FileAt w1 X.ps[i] f := by rw [show f = _ from HF.out]; exact h1.file i hi hip
      have hself := h1.apart.self _ (List.getElem_mem hip)
      have hv := fun g (e : (X.ps[i]).2.ownBlock = some g) => (.inl e : (X.ps[i]).2.ownBlock = some g ∨ w1.heap.size ≤ g)
      have key := fun (w2 : World) (hf : FileAt w2 ((X.ps[i]).1, (X.ps[i]).2) (f.1, f.1.length)) (c : Chg (fileFoot X.ps[i]) w1 w2) => DK.setFile h1 hip hf c hv
      have hfo := foot_set hip hv
      have hffo := fun g hg => file_foot (X := X) (i := i) hip (g := g) hg
      generalize X.ps[i] = p at *
      obtain ⟨hfb, hfr⟩ := hfile
      have hset := hfb.store 1 (.int .i64 (f.1.length : Int))
      have hcs := chg_set w1 ⟨p.1, 1, none⟩ (.int .i64 (f.1.length : Int))
      have hrow := own_chg hfr hcs (fun g e hg => hself (by rw [e]; simpa using hg))
      have hcm : Chg (fileFoot p) w1 (w1.setCell ⟨p.1, 1, none⟩ (.int .i64 (f.1.length : Int))) := hcs.mono (fun g hg => .inl (by simpa [fileFoot] using Or.inl hg))
      have hdk := key _ ⟨hset, hrow⟩ hcm
      have e0 := hfb.cell 0
      have e1 := hfb.cell 1
      have f1 := hfb.free 1
      simp only [List.getElem?_cons_zero, List.getElem?_cons_succ] at e0 e1
      obtain ⟨fA, fc, hfv2, _, _, _⟩ := own_form hfr
      have hup : Upd X w (w1.setCell ⟨p.1, 1, none⟩ (.int .i64 (f.1.length : Int))) { S1 with files := S1.files.set i (f.1, f.1.length) } := Upd.after hc1 ⟨{ X with ps := X.ps.set i (p.1, p.2) }, rfl, hdk, hcm.mono (fun g hg => .inl (hffo g hg)), hfo⟩
      have HU := Lib.hid hup
      rw [hfv2] at e0
      clear hup hdk hcm hset hcs hrow key hfo hv hself hptr hfv2 hfr hfb hffo
      unfold ptrV
      go_wp2
      go_ret
      exact ⟨rfl, HU.out⟩
  · have hne := neq0 h0
    rw [if_pos h0] at hsy
    rw [hsy]
    clear hsy e1 e2 e3 e4 e5 h0
    go_enter Tryz.func45, Tryz.ntmps45
    go_wp2_with fail
    refine hcall.mono ?_
    rintro e w1 ⟨rfl, h1, hc1⟩
    go_wp2
    go_ret
    exact ⟨rfl, Upd.called h1 hc1⟩
end Go.Proofs.YthepokgkfaocmaaGreatDoor

/-
  The walks of New, Stop, Fail, SyncDir of a disk.
-/
namespace Go.Proofs.YthepokgkfaocmaaGreatDoor
open Go Go.RowKit Go.Maps Go.Shelf

/-- The maps of names have been laid anew, and no turn is left. -/
theorem DK.remap {w w' : World} {X : Dw} {S S' : Sd} (h : DK w X S) {b1 b2 : Nat} (c : Chg [X.d] w w') (hb1 : NamesAt w' b1 S'.names.length S'.names) (hb2 : NamesAt w' b2 S'.lasted.length S'.lasted)
    (h1 : b1 = X.nb ∨ b1 = X.lb ∨ w.heap.size ≤ b1) (h2 : w.heap.size ≤ b2) (h12 : b1 ≠ b2) (hb : BoxO w' 79 X.d (({ X with nb := b1, lb := b2, tv := .slice none 0 0 } : Dw).cells S')) (e3 : S'.files = S.files) (e4 : S'.turns = []) :
    DK w' { X with nb := b1, lb := b2, tv := .slice none 0 0 } S' := by
  have a := h.apart
  have hl := h.lt
  obtain ⟨q, fs, nm, la, tu, ca, de, st, fa⟩ := S'
  simp only at e3 e4
  subst e3 e4
  refine ⟨hb, hb1, hb2, own_chg h.files c (fun g e => by simpa using (a.fv g e).1), fun i hi h3 => (h.file i hi h3).chg c (fun g e => by simpa using (a.ps _ (List.getElem_mem h3) g e).1), ?_, ?_⟩
  · simpa using World.ownsRow_nil _ _ _ _
  · have hnd := h.nodup
    unfold Dw.foot at hnd ⊢
    have hsub : (X.fv.ownBlock.toList ++ X.ps.flatMap fileFoot).Nodup := by
      refine List.Nodup.sublist ?_ hnd
      refine List.Sublist.trans ?_ (List.sublist_append_right _ _)
      refine List.Sublist.trans ?_ (List.sublist_append_right _ _)
      refine List.Sublist.trans ?_ (List.sublist_append_right _ _)
      exact List.Sublist.append (List.Sublist.refl _) (List.sublist_append_right _ _)
    have hmem : ∀ g ∈ X.fv.ownBlock.toList ++ X.ps.flatMap fileFoot, g ≠ X.d ∧ g ≠ X.nb ∧ g ≠ X.lb ∧ g < w.heap.size := fun g hg => by
      rcases List.mem_append.1 hg with h3 | h3
      · have h4 : X.fv.ownBlock = some g := by simpa using h3
        exact ⟨(a.fv g h4).1, (a.fv g h4).2.1, (a.fv g h4).2.2.1, hl g (mem_foot.2 (.inr (.inr (.inr (.inl h4)))))⟩
      · obtain ⟨p, hp, hgp⟩ := List.mem_flatMap.1 h3
        exact ⟨(a.ps p hp g hgp).1, (a.ps p hp g hgp).2.1, (a.ps p hp g hgp).2.2.1, hl g (mem_foot.2 (.inr (.inr (.inr (.inr (.inr ⟨p, hp, hgp⟩))))))⟩
    have hd := h.box.lt
    have hb1lt : b1 ≠ X.d := by
      rcases h1 with h1 | h1 | h1
      · rw [h1]; exact a.d_nb.symm
      · rw [h1]; exact a.d_lb.symm
      · omega
    have hno : (Value.slice none 0 0).ownBlock.toList = [] := rfl
    simp only [hno, List.nil_append, List.singleton_append]
    refine List.nodup_cons.2 ⟨fun hm => ?_, List.nodup_cons.2 ⟨fun hm => ?_, List.nodup_cons.2 ⟨fun hm => ?_, hsub⟩⟩⟩
    · rcases List.mem_cons.1 hm with h3 | hm
      · exact hb1lt h3.symm
      · rcases List.mem_cons.1 hm with h3 | hm
        · omega
        · exact (hmem _ hm).1 rfl
    · rcases List.mem_cons.1 hm with h3 | hm
      · exact h12 h3
      · obtain ⟨m1, m2, m3, m4⟩ := hmem _ hm
        rcases h1 with h1 | h1 | h1
        · exact m2 h1
        · exact m3 h1
        · omega
    · have := (hmem _ hm).2.2.2
      omega

set_option maxRecDepth 100000 in
set_option maxHeartbeats 1000000 in
theorem syncDir_any (X : Dw) (S : Sd) (hw : S.Wf) (w : World) (h : DK w X S) :
    Calls Tryz.prog 70 #[.pointer (some ⟨X.d, 0, none⟩)] w fun e w' => e = .returned (.int .i64 ((S.syncDir).2 : Int)) ∧ Upd X w w' (S.syncDir).1 := by
  have hcall := call_any X S none 0 0 [] (by omega) (by simp) hw.stop hw.fail w h Row.nil_
  have hte : texts [] = [] := rfl
  rw [hte] at hcall
  obtain ⟨e1, e2, e3, e4, e5, _, _⟩ := Sd.call_same S []
  have hsy : S.syncDir = if (S.call []).2 ≠ 0 then S.call [] else ({ (S.call []).1 with lasted := S.names, turns := [] }, 0) := rfl
  generalize S.call [] = R at *
  obtain ⟨S1, er⟩ := R
  simp only at *
  by_cases h0 : er = 0
  · subst h0
    rw [if_neg (by simp)] at hsy
    rw [hsy, ← e1]
    clear hsy e1 e2 e3 e4 e5 h hte
    go_enter Tryz.func70, Tryz.ntmps70
    go_wp2_with fail
    refine hcall.mono ?_
    rintro e w1 ⟨rfl, h1, hc1⟩
    have d2 := h1.box.cell 2
    simp only [Dw.cells, List.getElem?_cons_zero, List.getElem?_cons_succ] at d2
    have hcl := AnyW.maps_Clone_owns Tryz.clone60 9 (plainElem (H := Unit) Tryz.prog 3) X.nb _ _ w1 h1.names
    go_wp2_with fail
    refine hcl.mono ?_
    rintro e w2 ⟨rfl, hn2, hn1, hb2⟩
    have h2 := h1.below hb2
    have d3 := h2.box.cell 3
    have d4 := h2.box.cell 4
    have f3 := h2.box.free 3
    have f4 := h2.box.free 4
    simp only [Dw.cells, List.getElem?_cons_zero, List.getElem?_cons_succ] at d3 d4
    have hbx := (h2.box.store 3 (.map (some w1.heap.size))).store 4 (.slice none 0 0)
    have hcs : Chg [X.d] w1 ((w2.setCell ⟨X.d, 3, none⟩ (.map (some w1.heap.size))).setCell ⟨X.d, 4, none⟩ (.slice none 0 0)) := ((Chg.of_below hb2 [X.d]).setCell _ (.inl (by simp))).setCell _ (.inl (by simp))
    have hcs2 : Chg [X.d] w2 ((w2.setCell ⟨X.d, 3, none⟩ (.map (some w1.heap.size))).setCell ⟨X.d, 4, none⟩ (.slice none 0 0)) := ((Chg.refl [X.d] w2).setCell _ (.inl (by simp))).setCell _ (.inl (by simp))
    have hlt := h1.box.lt
    have hnlt := h1.names.lt
    have hdk := DK.remap (b1 := X.nb) (b2 := w1.heap.size) (S' := { S1 with lasted := S1.names, turns := [] }) h1 hcs (map_chg hn1 hcs2 (by simpa using h1.apart.d_nb.symm)) (map_chg hn2 hcs2 (by simp; omega)) (.inl rfl) (Nat.le_refl _) (by omega) hbx rfl rfl
    have hup : Upd X w _ _ := Upd.after hc1 ⟨{ X with nb := X.nb, lb := w1.heap.size, tv := .slice none 0 0 }, rfl, hdk, hcs.mono (fun g hg => .inl (by rw [List.mem_singleton.1 hg]; exact mem_foot.2 (.inl rfl))), fun g hg => by
      rcases mem_foot.1 hg with h5 | h5 | h5 | h5 | h5 | h5
      · exact .inl (mem_foot.2 (.inl h5))
      · exact .inl (mem_foot.2 (.inr (.inl h5)))
      · exact .inr (Nat.le_of_eq (show g = w1.heap.size from h5).symm)
      · exact .inl (mem_foot.2 (.inr (.inr (.inr (.inl h5)))))
      · cases h5
      · exact .inl (mem_foot.2 (.inr (.inr (.inr (.inr (.inr h5))))))⟩
    have HU := Lib.hid hup
    clear hup hdk hcs hcs2 hbx hn2 hn1 hb2 h2 h1 hcl hc1
    go_wp2
    go_ret
    exact ⟨rfl, HU.out⟩
  · have hne := neq0 h0
    rw [if_pos h0] at hsy
    rw [hsy]
    clear hsy e1 e2 e3 e4 e5 h0 hte
    go_enter Tryz.func70, Tryz.ntmps70
    go_wp2_with fail
    refine hcall.mono ?_
    rintro e w1 ⟨rfl, h1, hc1⟩
    go_wp2
    go_ret
    exact ⟨rfl, Upd.called h1 hc1⟩

theorem emptyNames {w : World} {b : Nat} (hb : w.heap[b]? = some (.map #[] 0)) : NamesAt w b 0 [] := by
  have h := (World.ownsMap_made (H := Unit) w Tryz.prog 9 (plainElem (H := Unit) Tryz.prog 3))
  obtain ⟨es, clock, h1, F, hs, hD⟩ := h
  rw [heap_alloc_new] at h1
  injection h1 with h1
  injection h1 with h1 h2
  subst h1 h2
  exact ⟨#[], 0, hb, F, hs, hD⟩
set_option maxRecDepth 100000 in
set_option maxHeartbeats 1000000 in
theorem dnew_any (q : Int) (w : World) : Calls Tryz.prog 11 #[.int .i64 q] w fun e w' => ∃ X : Dw, e = .returned (.pointer (some ⟨X.d, 0, none⟩)) ∧ DK w' X (Sd.new q) ∧ Below w.heap.size w w' ∧ ∀ g ∈ X.foot, w.heap.size ≤ g := by
  have hmm := @run_makeMap Tryz.prog
  go_enter Tryz.func11, Tryz.ntmps11
  go_wp2
  generalize hob : (Obj.cells #[.int .i64 (max q 0), .slice none 0 0, .map (some w.heap.size), .map (some (w.heap.size + 1)), .slice none 0 0, .int .i64 0, .bool false, .int .i64 0, .int .i64 0] 79) = ob
  have hq0 : ((q.toNat : Nat) : Int) = max q 0 := by omega
  have hs1 : ((w.alloc (.map #[] 0)).alloc (.map #[] 0)).heap.size = w.heap.size + 2 := by simp
  have hn1 : NamesAt (((w.alloc (.map #[] 0)).alloc (.map #[] 0)).alloc ob) w.heap.size 0 [] := emptyNames (by
    rw [Below.heap_alloc _ _ _ (by simp; omega), Below.heap_alloc _ _ _ (by simp)]
    exact (MapKept.heap_alloc w _).1)
  have hn2 : NamesAt (((w.alloc (.map #[] 0)).alloc (.map #[] 0)).alloc ob) (w.heap.size + 1) 0 [] := emptyNames (by
    rw [Below.heap_alloc _ _ _ (by simp)]
    have := (MapKept.heap_alloc (w.alloc (.map #[] 0)) (.map #[] 0)).1
    simpa using this)
  have hbx : BoxO (((w.alloc (.map #[] 0)).alloc (.map #[] 0)).alloc ob) 79 (w.heap.size + 2) (({ d := w.heap.size + 2, nb := w.heap.size, lb := w.heap.size + 1, fv := .slice none 0 0, tv := .slice none 0 0, ps := [] } : Dw).cells (Sd.new q)) := by
    have h1 := BoxO.new ((w.alloc (.map #[] 0)).alloc (.map #[] 0)) #[.int .i64 (max q 0), .slice none 0 0, .map (some w.heap.size), .map (some (w.heap.size + 1)), .slice none 0 0, .int .i64 0, .bool false, .int .i64 0, .int .i64 0] 79
    rw [hob, hs1] at h1
    unfold Dw.cells Sd.new
    simp only [hq0]
    exact h1
  have hB : Below w.heap.size w (((w.alloc (.map #[] 0)).alloc (.map #[] 0)).alloc ob) := (((Below.refl _ _).alloc (Nat.le_refl _) _).alloc (by simp) _).alloc (by simp; omega) _
  have hft : ∀ g ∈ ({ d := w.heap.size + 2, nb := w.heap.size, lb := w.heap.size + 1, fv := .slice none 0 0, tv := .slice none 0 0, ps := [] } : Dw).foot, w.heap.size ≤ g := fun g hg => by
    rcases mem_foot.1 hg with h | h | h | h | h | ⟨p, hp, _⟩
    · simp only at h; omega
    · simp only at h; omega
    · simp only at h; omega
    · simp [Value.ownBlock] at h
    · simp [Value.ownBlock] at h
    · cases hp
  have hdk : DK (((w.alloc (.map #[] 0)).alloc (.map #[] 0)).alloc ob) { d := w.heap.size + 2, nb := w.heap.size, lb := w.heap.size + 1, fv := .slice none 0 0, tv := .slice none 0 0, ps := [] } (Sd.new q) :=
    ⟨hbx, hn1, hn2, World.ownsRow_nil _ _ _ _, fun i hi => (by simp [Sd.new] at hi), World.ownsRow_nil _ _ _ _, by simp [Dw.foot, Value.ownBlock]⟩
  go_ret
  exact ⟨_, rfl, hdk, hB, hft⟩
theorem stop_any (X : Dw) (S : Sd) (n : Int) (w : World) (h : DK w X S) : Calls Tryz.prog 32 #[.pointer (some ⟨X.d, 0, none⟩), .int .i64 n] w fun e w' => e = .returned (.tuple #[]) ∧ DK w' X (S.setStop n) ∧ Chg [X.d] w w' := by
  have d6 := h.box.cell 6
  have d7 := h.box.cell 7
  have f6 := h.box.free 6
  have f7 := h.box.free 7
  simp only [Dw.cells, List.getElem?_cons_zero, List.getElem?_cons_succ] at d6 d7
  have hbx := (h.box.store 7 (.int .i64 (max n 0))).store 6 (.bool (S.dead || decide (n = 0)))
  have hc : Chg [X.d] w ((w.setCell ⟨X.d, 7, none⟩ (.int .i64 (max n 0))).setCell ⟨X.d, 6, none⟩ (.bool (S.dead || decide (n = 0)))) := ((Chg.refl [X.d] w).setCell _ (.inl (by simp))).setCell _ (.inl (by simp))
  have hq0 : ((n.toNat : Nat) : Int) = max n 0 := by omega
  have hdk := h.rebox (S' := S.setStop n) hc (by
    unfold Dw.cells Sd.setStop
    simp only [hq0]
    exact hbx) rfl rfl rfl rfl
  have HK := Lib.hid (And.intro hdk hc)
  clear hdk hc hbx hq0 h
  cases hd : S.dead with
  | true =>
    rw [hd] at d6 HK
    simp only [Bool.true_or] at HK
    clear hd
    go_enter Tryz.func32, Tryz.ntmps32
    go_wp2
    exact bodyPost_end (v := .tuple #[]) (by simp [results, go_sem]) rfl ⟨rfl, HK.out⟩
  | false =>
    rw [hd] at d6 HK
    clear hd
    by_cases hn : n = 0
    · subst hn
      simp only [Bool.false_or, decide_true] at HK
      go_enter Tryz.func32, Tryz.ntmps32
      go_wp2
      exact bodyPost_end (v := .tuple #[]) (by simp [results, go_sem]) rfl ⟨rfl, HK.out⟩
    · have hn1 : (n == 0) = false := by simpa using hn
      simp only [Bool.false_or, decide_eq_false hn] at HK
      clear hn
      go_enter Tryz.func32, Tryz.ntmps32
      go_wp2
      exact bodyPost_end (v := .tuple #[]) (by simp [results, go_sem]) rfl ⟨rfl, HK.out⟩
theorem fail_any (X : Dw) (S : Sd) (n : Int) (w : World) (h : DK w X S) : Calls Tryz.prog 29 #[.pointer (some ⟨X.d, 0, none⟩), .int .i64 n] w fun e w' => e = .returned (.tuple #[]) ∧ DK w' X (S.setFail n) ∧ Chg [X.d] w w' := by
  have d8 := h.box.cell 8
  have f8 := h.box.free 8
  simp only [Dw.cells, List.getElem?_cons_zero, List.getElem?_cons_succ] at d8
  have hbx := h.box.store 8 (.int .i64 (max n 0))
  have hc : Chg [X.d] w (w.setCell ⟨X.d, 8, none⟩ (.int .i64 (max n 0))) := (Chg.refl [X.d] w).setCell _ (.inl (by simp))
  have hq0 : ((n.toNat : Nat) : Int) = max n 0 := by omega
  have hdk := h.rebox (S' := S.setFail n) hc (by
    unfold Dw.cells Sd.setFail
    simp only [hq0]
    exact hbx) rfl rfl rfl rfl
  have HK := Lib.hid (And.intro hdk hc)
  clear hdk hc hbx hq0 h
  go_enter Tryz.func29, Tryz.ntmps29
  go_wp2
  exact bodyPost_end (v := .tuple #[]) (by simp [results, go_sem]) rfl ⟨rfl, HK.out⟩
end Go.Proofs.YthepokgkfaocmaaGreatDoor

/-
  The walk of List of a disk.
-/
namespace Go.Proofs.YthepokgkfaocmaaGreatDoor
open Go Go.RowKit Go.Maps Go.Sort Go.Shelf

theorem sorts_in (m : Nat) : AnyZ.SortsIn Tryz.prog Tryz.sorted55_ren Fence.wide m :=
  ⟨fun blk off cap ss W hH hblk hsz => callsIn_wide.2 (AnyM.slices_Sort_string Tryz.sort89 blk off cap ss W hH hblk hsz),
   fun p cap W => callsIn_wide.2 (AnyM.slices_Sort_string_none Tryz.sort89 p cap W)⟩
theorem keys_call (mb : Option Nat) (W : World) : CallsIn Fence.wide 5 Tryz.prog 56 #[.map mb] W fun e w' => e = .returned (.func (.func 90) #[] #[.pointer (some ⟨W.heap.size, 0, none⟩)]) ∧ w' = W.alloc (.cells #[.map mb] 70) :=
  AnyZ.keys_in Tryz.keys56 Fence.wide 5 trivial rfl mb W
set_option maxHeartbeats 1000000 in
theorem sorted_call {H : Type} (b nn : Nat) (D0 : DataW H) (R : Value → Option (DataW H × List MemPlace)) (w : World) (hown : w.ownsMap Tryz.prog 9 R b nn D0) (hmax : Maps.size D0 ≤ maxLen) (hbytes : Maps.size D0 * 16 ≤ 140737488355328) :
    CallsIn Fence.wide 5 Tryz.prog 55 #[.func (.func 90) #[] #[.pointer (some ⟨w.heap.size, 0, none⟩)]] (w.alloc (.cells #[.map (some b)] 70)) fun e w' => ∃ (v : Value) (ss : List (List UInt8)), e = .returned v ∧ ss.Perm (strKeys D0) ∧
      w'.ownsRow (w.alloc (.cells #[.map (some b)] 70)).heap.size 9 1 v ss.length ((ss.mergeSort (fun x y => decide (x ≤ y))).map encStr) ∧ (v = .slice none 0 0 ↔ ss = []) ∧ Below (w.alloc (.cells #[.map (some b)] 70)).heap.size (w.alloc (.cells #[.map (some b)] 70)) w' := by
  have hbl := hown.lt
  have hseq : SeqGives Fence.wide 2 Tryz.prog 90 #[.pointer (some ⟨w.heap.size, 0, none⟩)] encStr (fun ss => ss.Perm (strKeys D0)) (Maps.size D0) (w.alloc (.cells #[.map (some b)] 70)) :=
    AnyZ.keys_gives (ρ := Tryz.keys56_ren) { Tryz.keys56 with } Fence.wide _ trivial rfl (by omega) w.heap.size b nn D0 _ (by simp) (by simp) (by
      obtain ⟨es, clock, hb, Ft, hs, hD⟩ := hown
      exact ⟨es, clock, (Below.heap_alloc _ _ b hbl).trans hb, Ft, hs, hD⟩)
  exact AnyZ.sorted_in Tryz.sorted55 Fence.wide 5 trivial trivial trivial trivial rfl (by omega) (sorts_in _) (enters_of Tryz.func89 (by kernel_rfl) rfl) 90 #[.pointer (some ⟨w.heap.size, 0, none⟩)] trivial (enters_of Tryz.func90 (by kernel_rfl) rfl) _ _ hmax hbytes _ hseq
theorem strKeys_enc (m : Nm) : strKeys (Nm.enc m) = m.map (·.1) := by simp [Nm.enc, strKeys, Nm.lit1, strOf]

set_option maxRecDepth 100000 in
set_option maxHeartbeats 1000000 in
theorem dlist_any (X : Dw) (S : Sd) (hw : S.Wf) (w : World) (h : DK w X S) : Calls Tryz.prog 28 #[.pointer (some ⟨X.d, 0, none⟩)] w fun e w' =>
    ∃ A c, e = .returned (.slice A S.list.length c) ∧ w'.ownsRow w.heap.size 9 1 (.slice A S.list.length c) S.list.length (S.list.map encStr) ∧ Below w.heap.size w w' := by
  have d6 := h.box.cell 6
  have d2 := h.box.cell 2
  simp only [Dw.cells, List.getElem?_cons_zero, List.getElem?_cons_succ] at d2 d6
  have hdd := dead_any X.d S.dead w d6
  cases hd : S.dead with
  | true =>
    have hli : S.list = [] := by simp [Sd.list, hd]
    rw [hli]
    rw [hd] at hdd
    clear hd hli d6 d2
    go_enter Tryz.func28, Tryz.ntmps28
    go_wp2_with fail
    refine hdd.mono ?_
    rintro e w1 ⟨rfl, rfl⟩
    go_wp2
    go_ret
    exact ⟨_, _, rfl, World.ownsRow_nil _ _ _ _, Below.refl _ _⟩
  | false =>
    have hli : S.list = (S.names.map (·.1)).mergeSort fun x y => decide (x ≤ y) := by simp [Sd.list, hd]
    have hn := h.names
    have hsz := Nm.enc_size S.names
    have hm := hw.most
    rw [hd] at hdd
    have HL := Lib.hid hli
    obtain ⟨L, hL⟩ : ∃ L, L = S.list := ⟨_, rfl⟩
    rw [← hL]
    have HLL := Lib.hid hL
    clear hd hli d6 hL
    have hcall := fun w0 (hn0 : NamesAt w0 X.nb S.names.length S.names) => sorted_call X.nb _ _ _ w0 hn0 (by rw [hsz]; unfold maxLen; omega) (by rw [hsz]; omega)
    clear hsz
    have HC := Lib.hid hcall
    clear hcall
    refine (callsIn_wide (n := 6)).1 ?_
    have hfK : Fence.wide.fn 56 := trivial
    have hfS : Fence.wide.fn 55 := trivial
    have hfD : Fence.wide.fn 33 := trivial
    refine callsIn_of_wp Tryz.func28 rfl trivial ?_ rfl
    simp only [Tryz.ntmps28, List.size_toArray, List.length_cons, List.length_nil, Nat.reduceAdd, Nat.reduceSub, Array.replicate_succ, Array.replicate_zero, List.push_toArray, List.append_toArray, List.nil_append, List.cons_append]
    gi_wp2_with (first
      | (gi_at_call 33; refine (callsIn_wide.2 hdd).mono ?_; rintro e w' ⟨rfl, rfl⟩)
      | (gi_at_call 56; refine (keys_call _ _).mono ?_; rintro e w' ⟨rfl, rfl⟩)
      | (gi_at_call 55; refine (HC.out _ hn).mono ?_; rintro e w' ⟨v, ss, rfl, hS, hrow, hnil, hb⟩))
    have e1 : L = ss.mergeSort (fun x y => decide (x ≤ y)) := by
      rw [strKeys_enc] at hS
      rw [show L = _ from HLL.out, show S.list = _ from HL.out]
      exact (mergeSort_of_perm hS).symm
    have e2 : ss.length = L.length := by rw [e1, List.length_mergeSort]
    rw [← e1, e2] at hrow
    obtain ⟨A, c, rfl, _⟩ := own_form hrow
    go_ret
    exact ⟨_, _, rfl, own_base hrow (by simp), ((Below.refl _ w).alloc (Nat.le_refl _) _).trans (hb.mono (by simp))⟩
end Go.Proofs.YthepokgkfaocmaaGreatDoor

/-
  The walks of man.Name, man.Number; the variables of strconv that they read.
-/
namespace Go.Proofs.YthepokgkfaocmaaGreatDoor
open Go Go.RowKit Go.Shelf

/-- strconv's table and its two errors, as the program lays them. -/
structure Env (w : World) : Prop where
  tab : Lib.TabIs Tryz.prog w "internal/strconv.uint64pow10" .u64 Lib.pow10Tab
  syn : ∃ t p, w.var? Tryz.prog "strconv.ErrSyntax" = some #[.iface t p]
  rng : ∃ t p, w.var? Tryz.prog "strconv.ErrRange" = some #[.iface t p]
/-- The block of a variable. -/
noncomputable def gOf (n : String) : Nat := (Tryz.prog.globalNamed n).getD 0
/-- Their blocks stand below this. -/
noncomputable def NG : Nat := max (gOf "internal/strconv.uint64pow10") (max (gOf "strconv.ErrSyntax") (gOf "strconv.ErrRange")) + 1
theorem var_chg {w w' : World} {G : List Nat} {n : String} {cs : Array Value} {g : Nat} (hg : Tryz.prog.globalNamed n = some g) (h : w.var? Tryz.prog n = some cs) (c : Chg G w w') (hG : g ∉ G) : w'.var? Tryz.prog n = some cs := by
  unfold World.var? at h ⊢
  rw [hg] at h ⊢
  simp only [Option.bind_some] at h ⊢
  have hb : w'.heap[g]? = w.heap[g]? := c.block g (by
    cases he : w.heap[g]? with
    | none => rw [he] at h; cases h
    | some o => exact (Array.getElem?_eq_some_iff.1 he).1) hG
  rw [hb]
  exact h
theorem glob_of {n : String} (h : (Tryz.prog.globalNamed n).isSome = true) : Tryz.prog.globalNamed n = some (gOf n) := by
  unfold gOf
  cases hg : Tryz.prog.globalNamed n with
  | none => rw [hg] at h; cases h
  | some g => rfl
theorem glob1 : Tryz.prog.globalNamed "internal/strconv.uint64pow10" = some (gOf "internal/strconv.uint64pow10") := glob_of (by kernel_rfl)
theorem glob2 : Tryz.prog.globalNamed "strconv.ErrSyntax" = some (gOf "strconv.ErrSyntax") := glob_of (by kernel_rfl)
theorem glob3 : Tryz.prog.globalNamed "strconv.ErrRange" = some (gOf "strconv.ErrRange") := glob_of (by kernel_rfl)
theorem var_lt {w : World} {n : String} {cs : Array Value} {g : Nat} (hg : Tryz.prog.globalNamed n = some g) (h : w.var? Tryz.prog n = some cs) : g < w.heap.size := by
  unfold World.var? at h
  rw [hg] at h
  simp only [Option.bind_some] at h
  cases he : w.heap[g]? with
  | none => rw [he] at h; cases h
  | some o => exact (Array.getElem?_eq_some_iff.1 he).1
theorem Env.base {w : World} (h : Env w) : NG ≤ w.heap.size := by
  obtain ⟨h1, ⟨t2, p2, h2⟩, ⟨t3, p3, h3⟩⟩ := h
  have l1 := var_lt glob1 h1
  have l2 := var_lt glob2 h2
  have l3 := var_lt glob3 h3
  unfold NG
  omega
theorem Env.chg {w w' : World} {G : List Nat} (h : Env w) (c : Chg G w w') (hG : ∀ g ∈ G, NG ≤ g) : Env w' := by
  have e1 := glob1
  have e2 := glob2
  have e3 := glob3
  have l1 : gOf "internal/strconv.uint64pow10" < NG := by unfold NG; omega
  have l2 : gOf "strconv.ErrSyntax" < NG := by unfold NG; omega
  have l3 : gOf "strconv.ErrRange" < NG := by unfold NG; omega
  obtain ⟨h1, ⟨t2, p2, h2⟩, ⟨t3, p3, h3⟩⟩ := h
  exact ⟨var_chg e1 h1 c (fun hm => by have := hG _ hm; omega), ⟨t2, p2, var_chg e2 h2 c (fun hm => by have := hG _ hm; omega)⟩, ⟨t3, p3, var_chg e3 h3 c (fun hm => by have := hG _ hm; omega)⟩⟩
theorem Env.below {w w' : World} (h : Env w) (hb : Below w.heap.size w w') : Env w' := h.chg (Chg.of_below hb []) (fun g hg => by cases hg)

set_option maxRecDepth 100000 in
set_option maxHeartbeats 1000000 in
theorem name_any (k : ByteArray) (hk : k.size ≤ 1000) (n : Int) (hn : -9223372036854775808 ≤ n ∧ n ≤ 9223372036854775807) (w : World) (h : Env w) :
    Calls Tryz.prog 22 #[.string k, .int .i64 n] w fun e w' => e = .returned (.string (str (Mn.name k.data.toList n))) ∧ Below w.heap.size w w' := by
  by_cases hf : Mn.fits n = true
  · have h1 : 1 ≤ n ∧ n ≤ 1073741824 := by simp [Mn.fits] at hf; omega
    obtain ⟨h1, h2⟩ := h1
    have e0 : (n < 1) = False := by simp; omega
    have e1 : ((1073741824 : Int) < n) = False := by simp; omega
    by_cases hkd : Mn.isKind k.data.toList = true
    · have hnm : Mn.name k.data.toList n = k.data.toList ++ [46] ++ Lib.itoa n := by rw [Mn.name, if_pos (by simp [hf, hkd])]
      have hres : (str (Mn.name k.data.toList n)) = k ++ ⟨#[46]⟩ ++ ⟨(Lib.itoa n).toArray⟩ := by
        rw [hnm]
        apply ByteArray.ext
        simp [str]
      rw [hres]
      have hit := Any.strconv_Itoa Tryz.laysM171 n hn.1 hn.2 w h.tab
      have hlen := Lib.itoa_length_le n hn.1 hn.2
      clear hnm hres h hf
      have hk3 : k = str Mn.kLog ∨ k = str Mn.kTab ∨ k = str Mn.kMan := by
        simp only [Mn.isKind, Bool.or_eq_true, beq_iff_eq] at hkd
        rw [← str_list k]
        rcases hkd with h | h | h <;> rw [h] <;> simp
      clear hkd
      rcases hk3 with rfl | rfl | rfl
      all_goals
        unfold str
        first | unfold Mn.kLog | unfold Mn.kTab | unfold Mn.kMan
        go_enter Tryz.func22, Tryz.ntmps22
        go_wp2_with fail
        refine hit.mono ?_
        rintro e w1 ⟨rfl, q, os, rfl⟩
        go_wp2
        go_ret
        exact ⟨rfl, Lib.below_grow _ _ (Nat.le_refl _) _ _⟩
    · have hnm : Mn.name k.data.toList n = [] := by rw [Mn.name, if_neg (by simp [hkd])]
      have hes : str [] = ⟨#[]⟩ := rfl
      rw [hnm, hes]
      have hb : ∀ l : List UInt8, k.data.toList ≠ l → (k.toList == l) = false := fun l h => by
        rw [ByteArray.toList_eq]
        simpa using h
      have hd : k.data.toList ≠ Mn.kLog ∧ k.data.toList ≠ Mn.kTab ∧ k.data.toList ≠ Mn.kMan := by
        simpa [Mn.isKind] using hkd
      obtain ⟨d1, d2, d3⟩ := hd
      have b1 := hb _ d1
      have b2 := hb _ d2
      have b3 := hb _ d3
      unfold Mn.kLog at b1
      unfold Mn.kTab at b2
      unfold Mn.kMan at b3
      clear hb hnm hes d1 d2 d3 hkd hf h
      go_enter Tryz.func22, Tryz.ntmps22
      go_wp2
      go_ret
      exact ⟨rfl, Below.refl _ _⟩
  · have he : Mn.name k.data.toList n = [] := by rw [Mn.name, if_neg (by simp [hf])]
    rw [he]
    have hes : str [] = ⟨#[]⟩ := rfl
    rw [hes]
    have h1 : n < 1 ∨ 1073741824 < n := by simp [Mn.fits] at hf; omega
    clear he hf
    rcases h1 with h1 | h1
    · go_enter Tryz.func22, Tryz.ntmps22
      go_wp2
      go_ret
      exact ⟨rfl, Below.refl _ _⟩
    · have h2 : (n < 1) = False := by simp; omega
      go_enter Tryz.func22, Tryz.ntmps22
      go_wp2
      go_ret
      exact ⟨rfl, Below.refl _ _⟩

theorem atoi_any (s : ByteArray) (hs : s.size ≤ 1000000) (w : World) (h : Env w) :
    Calls Tryz.prog 53 #[.string s] w fun e w' => ∃ (v : Int) (ev : Value), e = .returned (.tuple #[.int .i64 v, ev]) ∧ ((Mn.okOf (Lib.atoiAll s.data.toList) = some v ∧ ev = .nilIface ∧ -9223372036854775808 ≤ v ∧ v ≤ 9223372036854775807) ∨ (Mn.okOf (Lib.atoiAll s.data.toList) = none ∧ ∃ t p, ev = .iface t p)) ∧ Below w.heap.size w w' := by
  cases ha : Lib.atoiAll s.data.toList with
  | ok v =>
    refine (Any.strconv_Atoi_ok Tryz.laysC172 s (by omega) v ha w).mono ?_
    rintro e w1 ⟨rfl, h1⟩
    refine ⟨_, _, rfl, .inl ⟨rfl, rfl, Lib.atoiAll_bounds ha⟩, ?_⟩
    rcases h1 with rfl | ⟨t, rfl⟩
    · exact Below.refl _ _
    · exact Joins.below_bytesWorld _ _ _ _ (Nat.le_refl _)
  | range =>
    obtain ⟨tp, p, hv⟩ := h.rng
    refine (Any.strconv_Atoi_range_var Tryz.laysC172 s (by omega) ha tp p w hv).mono ?_
    rintro e w1 ⟨N, rfl, _, _, hb⟩
    exact ⟨_, _, rfl, .inr ⟨rfl, _, _, rfl⟩, hb⟩
  | _ =>
    obtain ⟨tp, p, hv⟩ := h.syn
    refine (Any.strconv_Atoi_syntax_var Tryz.laysC172 s (by omega) ha tp p w hv).mono ?_
    rintro e w1 ⟨N, rfl, _, _, hb⟩
    exact ⟨_, _, rfl, .inr ⟨rfl, _, _, rfl⟩, hb⟩
def numV (o : Option Int) : Value := match o with
  | some v => .tuple #[.int .i64 v, .bool true]
  | none => .tuple #[.int .i64 0, .bool false]

set_option maxRecDepth 100000 in
set_option maxHeartbeats 1000000 in
theorem number_any (s k : ByteArray) (hs : s.size ≤ 100000) (hk : k.size ≤ 1000) (w : World) (h : Env w) :
    Calls Tryz.prog 23 #[.string s, .string k] w fun e w' => e = .returned (numV (Mn.number s.data.toList k.data.toList)) ∧ Below w.heap.size w w' := by
  have hcut := fun p => Any.strings_CutPrefix Tryz.lays103 s p w
  have hat := fun u hu w1 hw1 => atoi_any u hu w1 hw1
  have hpre : (k ++ ⟨#[46]⟩).data.toList = k.data.toList ++ [46] := by simp
  have hcut := hcut (k ++ ⟨#[46]⟩)
  rw [hpre] at hcut
  cases hp : Lib.hasPrefix s.data.toList (k.data.toList ++ [46]) with
  | false =>
    have hn : Mn.number s.data.toList k.data.toList = none := by rw [Mn.number, if_neg (by simp [hp])]
    rw [hn, numV]
    have htr : Lib.trimPrefix s.data.toList (k.data.toList ++ [46]) = s.data.toList := by rw [Lib.trimPrefix, if_neg (by simp [hp])]
    rw [hp, htr] at hcut
    have hss : (⟨s.data.toList.toArray⟩ : ByteArray) = s := by simp
    rw [hss] at hcut
    have hat := hat s (by omega) w h
    clear hp hn htr hpre hss
    go_enter Tryz.func23, Tryz.ntmps23
    go_wp2_with fail
    refine hcut.mono ?_
    rintro e w1 ⟨rfl, rfl⟩
    go_wp2_with fail
    refine hat.mono ?_
    rintro e w1 ⟨v, ev, rfl, hev, hb⟩
    go_wp2
    go_ret2
    exact ⟨rfl, hb⟩
  | true =>
    have htr : Lib.trimPrefix s.data.toList (k.data.toList ++ [46]) = s.data.toList.drop (k.data.toList.length + 1) := by rw [Lib.trimPrefix, if_pos hp]; simp
    rw [hp, htr] at hcut
    obtain ⟨T, hT⟩ : ∃ T : ByteArray, T = ⟨(s.data.toList.drop (k.data.toList.length + 1)).toArray⟩ := ⟨_, rfl⟩
    have hTl : T.data.toList = s.data.toList.drop (k.data.toList.length + 1) := by rw [hT]
    have hTs : T.size ≤ 1000000 := by
      have : T.size = T.data.toList.length := by simp
      rw [this, hTl, List.length_drop]
      have : s.data.toList.length = s.size := by simp
      omega
    rw [← hT] at hcut
    have hat := hat T hTs w h
    rw [hTl] at hat
    have hnum : Mn.number s.data.toList k.data.toList = match Mn.okOf (Lib.atoiAll (s.data.toList.drop (k.data.toList.length + 1))) with
      | some v => if Mn.name k.data.toList v = s.data.toList then some v else none
      | none => none := by rw [Mn.number, if_pos hp]; first | done | rfl
    cases hok : Mn.okOf (Lib.atoiAll (s.data.toList.drop (k.data.toList.length + 1))) with
    | none =>
      rw [hok] at hnum hat
      simp only at hnum
      rw [hnum, numV]
      have HAT := Lib.hid hat
      clear hat hp htr hpre hT hTl hTs hnum hok
      go_enter Tryz.func23, Tryz.ntmps23
      go_wp2_with fail
      refine hcut.mono ?_
      rintro e w1 ⟨rfl, rfl⟩
      go_wp2_with fail
      refine HAT.out.mono ?_
      rintro e w1 ⟨v, ev, rfl, hev, hb⟩
      rcases hev with ⟨h1, _⟩ | ⟨_, t, p, rfl⟩
      · cases h1
      · go_wp2
        go_ret2
        exact ⟨rfl, hb⟩
    | some v =>
      rw [hok] at hnum hat
      simp only at hnum
      have hw1 : ∀ w1, Below w.heap.size w w1 → Env w1 := fun w1 hb => h.below hb
      have hnm := fun (hv : -9223372036854775808 ≤ v ∧ v ≤ 9223372036854775807) w1 hb => name_any k hk v hv w1 (hw1 w1 hb)
      by_cases heq : Mn.name k.data.toList v = s.data.toList
      · rw [if_pos heq] at hnum
        rw [hnum, numV]
        rw [heq, str_list] at hnm
        have HAT := Lib.hid hat
        have HNM := Lib.hid hnm
        clear hat hp htr hpre hT hTl hTs hnum hok hnm heq hw1
        go_enter Tryz.func23, Tryz.ntmps23
        go_wp2_with fail
        refine hcut.mono ?_
        rintro e w0 ⟨rfl, hw0⟩
        obtain rfl := hw0.symm
        go_wp2_with fail
        refine HAT.out.mono ?_
        rintro e w1 ⟨v', ev, rfl, hev, hb⟩
        rcases hev with ⟨h1, rfl, hv⟩ | ⟨h1, _⟩
        · injection h1 with h1
          subst h1
          go_wp2_with fail
          refine (HNM.out hv w1 hb).mono ?_
          rintro e w2 ⟨rfl, hb2⟩
          have hb3 : Below w.heap.size w w2 := hb.trans (hb2.mono hb.size)
          go_wp2
          go_ret2
          exact ⟨rfl, hb3⟩
        · cases h1
      · rw [if_neg heq] at hnum
        rw [hnum, numV]
        have hne : ((str (Mn.name k.data.toList v)).toList == s.toList) = false := by
          rw [ByteArray.toList_eq, ByteArray.toList_eq, list_str]
          simpa using heq
        generalize str (Mn.name k.data.toList v) = nm at *
        have HAT := Lib.hid hat
        have HNM := Lib.hid hnm
        clear hat hp htr hpre hT hTl hTs hnum hok hnm heq hw1
        go_enter Tryz.func23, Tryz.ntmps23
        go_wp2_with fail
        refine hcut.mono ?_
        rintro e w0 ⟨rfl, hw0⟩
        obtain rfl := hw0.symm
        go_wp2_with fail
        refine HAT.out.mono ?_
        rintro e w1 ⟨v', ev, rfl, hev, hb⟩
        rcases hev with ⟨h1, rfl, hv⟩ | ⟨h1, _⟩
        · injection h1 with h1
          subst h1
          go_wp2_with fail
          refine (HNM.out hv w1 hb).mono ?_
          rintro e w2 ⟨rfl, hb2⟩
          have hb3 : Below w.heap.size w w2 := hb.trans (hb2.mono hb.size)
          go_wp2
          go_ret2
          exact ⟨rfl, hb3⟩
        · cases h1
end Go.Proofs.YthepokgkfaocmaaGreatDoor

/-
  Words for drawn regions: an append onto a row of the call's own, as one step; and for a new block of a struct.
-/
namespace Go.Proofs.YthepokgkfaocmaaGreatDoor
open Go Go.RowKit

theorem step_appF {P : Program} {ops : Array Oper} {o : Oper} {a : Act} {w : World} {K : Act → World → Prop} {Q : Exit → Act → World → Prop} {E : Prop} (hgd : o.guard = none) (s x : Operand) (t : TypeId)
    (ho : o.op = .call { callee := .builtin .append, args := #[s, x], argTypes := #[t, t] })
    (base : Nat) (e : TypeId) (i : TypeInfo) (z : Value) (size bytes : Nat) (ht : P.underlying t = some (.slice e)) (hi : P.info? e = some i) (hz : i.zero = some z)
    (hsize : i.size = size) (hby : i.bytes = bytes) (hzs : z.cells.size = size) (hsz : 0 < size) (hbase : base ≤ w.heap.size) (v : Value) (n : Nat) (xs : List Value) (hs : a.eval s = v) (hown : w.ownsRow base e size v n xs)
    (B : Nat) (A : Option Addr) (m c : Nat) (hm : 0 < m) (news : List Value) (hx : a.eval x = .slice A m c) (hr : Row B w A m size news) (h1 : ∀ u ∈ news, u.oneCell' = true)
    (N : Nat) (X : List Value) (hN : n + m = N) (hX : xs ++ news = X) (h63 : N ≤ maxLen) (hbytes : N * bytes ≤ 140737488355328)
    (h : ∀ A' c' w', w'.ownsRow base e size (.slice A' N c') N X → w.grownBy w' v.ownBlock → N ≤ c' → c' ≤ maxLen → ((Value.slice A' N c').ownBlock = v.ownBlock ∨ (Value.slice A' N c').ownBlock = some w.heap.size) → K (a.put o.dst (.slice A' N c')) w') :
    if Region.wanted o (yielded ops a.tmps) = true then Oper.wp P o a w K Q else E := by
  have hw : Region.wanted o (yielded ops a.tmps) = true := by simp [Region.wanted, hgd]
  rw [if_pos hw]
  subst hN
  subst hX
  have hpos : 0 < news.length := by
    rw [hr.len]
    exact Nat.mul_pos hm hsz
  obtain ⟨a', rfl, _⟩ := hr.some_ hpos
  obtain ⟨v', w', hrun, h3, h4, _, h6⟩ := run_append_own_at (P := P) (ty := o.type) w base t e i z size bytes ht hi hz hsize hby hzs hsz v n xs hown a' m c news hr.len hr.cells h1 h63 hbytes hbase
  obtain ⟨A', c', rfl, h5, h7, _⟩ := own_form h3
  unfold Oper.wp execOp
  simp only [ho, resolve, invoke, builtin, Sem.run_bind, Sem.run_pure, Result.andThen_ok, List.map_toArray, List.map_cons, List.map_nil, hs, hx, hrun]
  exact h A' c' w' h3 h4 h5 h7 h6
end Go.Proofs.YthepokgkfaocmaaGreatDoor

/-
  The walks of Remove and Rename of a disk.
-/
namespace Go.Proofs.YthepokgkfaocmaaGreatDoor
open Go Go.RowKit Go.Maps

theorem info_turn : (Tryz.prog.info? 101).map (fun i => (i.zero, i.size, i.bytes)) = some (some (.agg #[.int .i64 0, .int .i64 0, .string ⟨#[]⟩, .string ⟨#[]⟩]), 4, 48) := by kernel_rfl

theorem grown_box {w3 w4 : World} {X : Dw} {S : Sd} {o : Obj} (h : DK w3 X S) (hg : ((w3.alloc o).drew).grownBy w4 X.tv.ownBlock) : BoxO w4 79 X.d (X.cells S) :=
  ((h.box.alloc o).drew).chg (Chg.of_grown (F := X.tv.ownBlock.toList) hg (fun b e => by simp [e])) (fun hm => (h.apart.tv _ (by simpa using hm)).1 rfl)
/-- A turn was appended, and the row's place in the struct was stored. -/
theorem upd_turnD {w3 w4 : World} {X : Dw} {S : Sd} {o : Obj} (h : DK w3 X S) (t : Tn) {v : Value} (hg : ((w3.alloc o).drew).grownBy w4 X.tv.ownBlock) (hown : w4.ownsRow 0 101 4 v (S.turns.length + 1) (S.turns.flatMap turnCells ++ turnCells t))
    (hob : v.ownBlock = X.tv.ownBlock ∨ v.ownBlock = some ((w3.alloc o).drew).heap.size) : DK (w4.setCell ⟨X.d, 4, none⟩ v) { X with tv := v } { S with turns := S.turns ++ [t] } ∧ Chg X.foot w3 (w4.setCell ⟨X.d, 4, none⟩ v) ∧ ∀ g ∈ ({ X with tv := v } : Dw).foot, g ∈ X.foot ∨ w3.heap.size ≤ g := by
  have hbox := grown_box h hg
  have ha := h.apart
  have hsz : ((w3.alloc o).drew).heap.size = w3.heap.size + 1 := by simp
  have hvd : ∀ g, v.ownBlock = some g → g ≠ X.d := fun g e e2 => by
    subst e2
    rcases hob with h1 | h1
    · exact (ha.tv X.d (by rw [← h1, e])).1 rfl
    · rw [e] at h1
      injection h1 with h1
      have := h.box.lt
      omega
  have hc1 : Chg X.tv.ownBlock.toList w3 w4 := ((Chg.refl _ w3).alloc o).drew.trans (Chg.of_grown (F := X.tv.ownBlock.toList) hg (fun b e => by simp [e])) (fun g hg => .inl hg)
  have hc2 : Chg ([X.d] ++ X.tv.ownBlock.toList) w3 (w4.setCell ⟨X.d, 4, none⟩ v) := (hc1.mono (fun g hg => .inl (List.mem_append_right _ hg))).setCell v (.inl (by simp))
  have hv : ∀ g, v.ownBlock = some g → X.tv.ownBlock = some g ∨ w3.heap.size ≤ g := fun g e => by
    rcases hob with h1 | h1
    · exact .inl (by rw [← h1, e])
    · rw [e] at h1
      injection h1 with h1
      exact .inr (by omega)
  have hdk := DK.setTurns (w' := w4.setCell ⟨X.d, 4, none⟩ v) (tv := v) (ts := S.turns ++ [t]) h (by
      have h1 := own_chg hown (chg_set w4 ⟨X.d, 4, none⟩ v) (fun g e hg => hvd g e (by simpa using hg))
      simpa using h1) hc2 hv (by
      have h1 := hbox.store 4 v
      exact h1)
  refine ⟨hdk, hc2.mono (fun g hg => .inl ?_), fun g hg => ?_⟩
  · rcases List.mem_append.1 hg with h1 | h1
    · rw [List.mem_singleton.1 h1]; exact mem_foot.2 (.inl rfl)
    · exact mem_foot.2 (.inr (.inr (.inr (.inr (.inl (by simpa using h1))))))
  · rcases mem_foot.1 hg with h1 | h1 | h1 | h1 | h1 | h1
    · exact .inl (mem_foot.2 (.inl h1))
    · exact .inl (mem_foot.2 (.inr (.inl h1)))
    · exact .inl (mem_foot.2 (.inr (.inr (.inl h1))))
    · exact .inl (mem_foot.2 (.inr (.inr (.inr (.inl h1)))))
    · rcases hv g h1 with h2 | h2
      · exact .inl (mem_foot.2 (.inr (.inr (.inr (.inr (.inl h2))))))
      · exact .inr h2
    · exact .inl (mem_foot.2 (.inr (.inr (.inr (.inr (.inr h1))))))
theorem upd_turn {w3 w4 : World} {X : Dw} {S : Sd} {o : Obj} (h : DK w3 X S) (t : Tn) {v : Value} (hg : ((w3.alloc o).drew).grownBy w4 X.tv.ownBlock) (hown : w4.ownsRow 0 101 4 v (S.turns.length + 1) (S.turns.flatMap turnCells ++ turnCells t))
    (hob : v.ownBlock = X.tv.ownBlock ∨ v.ownBlock = some ((w3.alloc o).drew).heap.size) : Upd X w3 (w4.setCell ⟨X.d, 4, none⟩ v) { S with turns := S.turns ++ [t] } :=
  let ⟨h1, h2, h3⟩ := upd_turnD h t hg hown hob
  ⟨{ X with tv := v }, rfl, h1, h2, h3⟩
theorem Upd.trans {X : Dw} {w w1 w2 : World} {S2 : Sd} {X1 : Dw} (e : X1.d = X.d) (c : Chg X.foot w w1) (hf : ∀ g ∈ X1.foot, g ∈ X.foot ∨ w.heap.size ≤ g) (h2 : Upd X1 w1 w2 S2) : Upd X w w2 S2 := by
  obtain ⟨X', e', h, c', hf'⟩ := h2
  refine ⟨X', e'.trans e, h, c.trans c' (fun g hg => hf g hg), fun g hg => ?_⟩
  rcases hf' g hg with h3 | h3
  · exact hf g h3
  · exact .inr (Nat.le_trans c.size h3)

set_option maxRecDepth 100000 in
set_option maxHeartbeats 1000000 in
theorem remove_any (X : Dw) (S : Sd) (s : ByteArray) (hs : s.size ≤ maxLen) (hw : S.Wf) (hl : S.load ≤ 1099511627776) (w : World) (h : DK w X S) :
    Calls Tryz.prog 16 #[.pointer (some ⟨X.d, 0, none⟩), .string s] w fun e w' => e = .returned (.int .i64 ((S.remove s.data.toList).2 : Int)) ∧ Upd X w w' (S.remove s.data.toList).1 := by
  have hcall := call1 X S s hs hw w h
  have hw1 := hw.call [s.data.toList]
  have hld := Sd.call_load S [s.data.toList]
  obtain ⟨e1, e2, e3, e4, e5, _, _⟩ := Sd.call_same S [s.data.toList]
  have hsy : S.remove s.data.toList = if (S.call [s.data.toList]).2 ≠ 0 then S.call [s.data.toList] else if (S.names.get s.data.toList).isNone then ((S.call [s.data.toList]).1, 11)
    else ({ (S.call [s.data.toList]).1 with names := Tn.go ⟨3, 0, s.data.toList, []⟩ S.names, turns := S.turns ++ [⟨3, 0, s.data.toList, []⟩] }, 0) := rfl
  generalize S.call [s.data.toList] = R at *
  obtain ⟨S1, er⟩ := R
  simp only at *
  by_cases h0 : er = 0
  · subst h0
    rw [if_neg (by simp)] at hsy
    have hfd := fun w1 h1 => find_any X S1 s hs w1 h1 hw1.names
    cases h3 : S.names.get s.data.toList with
    | none =>
      simp only [h3, Option.isNone_none, if_true] at hsy
      rw [hsy]
      simp only [e1, h3] at hfd
      clear hsy h3 e1 e2 e3 e4 e5 hw1 hw h hld
      go_enter Tryz.func16, Tryz.ntmps16
      go_wp2_with fail
      refine hcall.mono ?_
      rintro e w1 ⟨rfl, h1, hc1⟩
      go_wp2_with fail
      refine (hfd w1 h1).mono ?_
      rintro e w2 ⟨rfl, rfl⟩
      go_wp2
      go_ret
      exact ⟨rfl, Upd.called h1 hc1⟩
    | some i =>
      simp only [h3, Option.isNone_some, Bool.false_eq_true, if_false] at hsy
      rw [hsy, ← e1, ← e4]
      simp only [e1, h3] at hfd
      have hml : S1.turns.length + 1 ≤ 1099511627777 := by unfold Sd.load at hld hl; omega
      clear hsy h3 e1 e2 e3 e4 e5 hw h hld
      go_enter Tryz.func16, Tryz.ntmps16
      go_wp2_with fail
      refine hcall.mono ?_
      rintro e w1 ⟨rfl, h1, hc1⟩
      go_wp2_with fail
      refine (hfd w1 h1).mono ?_
      rintro e w2 ⟨rfl, rfl⟩
      unfold ptrV
      go_wp2
      have hbV : Below w1.heap.size w1 (w1.alloc (.cells #[.int .i64 3, .int .i64 0, .string s, .string ⟨#[]⟩] 101)) := (Below.refl _ _).alloc (Nat.le_refl _) _
      have hbox := BoxO.new w1 #[.int .i64 3, .int .i64 0, .string s, .string ⟨#[]⟩] 101
      have hlt : w1.heap.size < (w1.alloc (.cells #[.int .i64 3, .int .i64 0, .string s, .string ⟨#[]⟩] 101)).heap.size := by simp
      have h2 := h1.below hbV
      have hup0 := Chg.of_below hbV X.foot
      generalize w1.alloc (.cells #[.int .i64 3, .int .i64 0, .string s, .string ⟨#[]⟩] 101) = V at *
      have c0 := hbox.cell 0
      have c1 := hbox.cell 1
      have c2 := hbox.cell 2
      have c3 := hbox.cell 3
      have d2 := h2.box.cell 2
      simp only [Dw.cells, List.getElem?_cons_zero, List.getElem?_cons_succ] at c0 c1 c2 c3 d2
      have htb := h1.lt
      have hnamed := Lib.hid h2.names
      have hsm : S1.names.length < maxLen := by have := hw1.most; unfold maxLen; omega
      generalize w1.heap.size = tb at *
      go_still_tail 5, (by kernel_rfl)
      change wpList _ _ _ _ _ (World.drew V)
      go_wp2_with fail
      have hdo := do_any 3 0 s.data.toList [] (by simpa using hs) (by simp) (by omega) X.nb S1.names.length S1.names V.drew hnamed.out.drew hsm (by omega)
      simp only [turnV, str_list] at hdo
      refine hdo.mono ?_
      rintro e w3 ⟨rfl, hn3, hc3⟩
      have hc3' : Chg [X.nb] V w3 := (Chg.refl [X.nb] V).drew.trans hc3 (fun g hg => .inl hg)
      have h3 := h2.setNames hn3 hc3'
      have hbox3 := hbox.chg hc3' (by simp; have := htb X.nb (mem_foot.2 (.inr (.inl rfl))); omega)
      have c0 := hbox3.cell 0
      have c1 := hbox3.cell 1
      have c2 := hbox3.cell 2
      have c3 := hbox3.cell 3
      have d4 := h3.box.cell 4
      have f4 := h3.box.free 4
      have hxd := h3.box.lt
      obtain ⟨tA, tc, htv, _, _, _⟩ := own_form h3.turns
      simp only [Dw.cells, List.getElem?_cons_zero, List.getElem?_cons_succ] at c0 c1 c2 c3 d4
      rw [htv] at d4
      clear d2 hnamed hdo hn3
      have hrow4 := own_base h3.turns (Nat.zero_le _)
      rw [htv] at hrow4
      have hpre := fun (o : Obj) (w4 : World) (hg : ((w3.alloc o).drew).grownBy w4 (Value.slice tA S1.turns.length tc).ownBlock) => (⟨(grown_box h3 (by rw [htv]; exact hg)).cell 4, (grown_box h3 (by rw [htv]; exact hg)).free 4⟩ : w4.cell? ⟨X.d, 4, none⟩ = _ ∧ w4.frozen? ⟨X.d, 4, none⟩ = false)
      have hpost := fun (o : Obj) (w4 : World) (v : Value) (hg : ((w3.alloc o).drew).grownBy w4 (Value.slice tA S1.turns.length tc).ownBlock) hown hob => upd_turn (o := o) (w4 := w4) (v := v) h3 ⟨3, 0, s.data.toList, []⟩ (by rw [htv]; exact hg) hown (by rw [htv]; exact hob)
      simp only [turnCells, str_list] at hpost
      have HPO := Lib.hid hpost
      have HPR := Lib.hid hpre
      have htr := fun (w5 : World) (S5 : Sd) (h : Upd X w3 w5 S5) => Upd.after hc1 (Upd.trans rfl (hup0.trans (hc3'.mono (fun g hg => .inl (by rw [List.mem_singleton.1 hg]; exact mem_foot.2 (.inr (.inl rfl))) : ∀ g ∈ [X.nb], g ∈ X.foot ∨ _)) (fun g hg => .inl hg)) (fun g hg => .inl hg) h)
      have HTR := Lib.hid htr
      clear hpost hpre htr
      obtain ⟨i0, hi0, hz0, hz1, hz2⟩ := info_parts info_turn
      go_wp2
      go_region_law (refine step_appF rfl (.tmp 30) (.tmp 32) _ rfl 0 101 i0 _ 4 48 Tryz.underlying72 hi0 hz0 hz1 hz2 rfl (by omega) (Nat.zero_le _) (.slice tA S1.turns.length tc) S1.turns.length _ rfl (hrow4.alloc _).drew _ (some ⟨w3.heap.size, 0, none⟩) 1 1 (by omega) [.int .i64 3, .int .i64 0, .string s, .string ⟨#[]⟩] rfl (Row.new w3 #[.int .i64 3, .int .i64 0, .string s, .string ⟨#[]⟩] 101 (n := 1) (size := 4) rfl).drew (by simp [Value.oneCell']) (S1.turns.length + 1) _ rfl rfl (by unfold maxLen; omega) (by omega) ?_; intro A4 c4 w4 hown4 hg4 _ _ hob4; obtain ⟨q4, q5⟩ := HPR.out _ _ hg4; have HO := Lib.hid (HTR.out _ _ (HPO.out _ _ _ hg4 hown4 hob4)); clear hg4 hown4 hob4; simp only [Dw.cells, List.getElem?_cons_zero, List.getElem?_cons_succ] at q4)
      all_goals
        go_wp2
        go_ret
        exact ⟨rfl, HO.out⟩
  · have hne := neq0 h0
    rw [if_pos h0] at hsy
    rw [hsy]
    clear hsy e1 e2 e3 e4 e5 h0 hld
    go_enter Tryz.func16, Tryz.ntmps16
    go_wp2_with fail
    refine hcall.mono ?_
    rintro e w1 ⟨rfl, h1, hc1⟩
    go_wp2
    go_ret
    exact ⟨rfl, Upd.called h1 hc1⟩
end Go.Proofs.YthepokgkfaocmaaGreatDoor

/-
  The walk of Rename of a disk.
-/
namespace Go.Proofs.YthepokgkfaocmaaGreatDoor
open Go Go.RowKit Go.Maps

theorem call2 (X : Dw) (S : Sd) (s u : ByteArray) (hs : s.size ≤ maxLen) (hu : u.size ≤ maxLen) (hw : S.Wf) (w : World) (h : DK w X S) :
    Calls Tryz.prog 47 #[.pointer (some ⟨X.d, 0, none⟩), .slice (some ⟨w.heap.size, 0, none⟩) 2 2] (w.alloc (.cells #[.string s, .string u] 9)) fun e w' => e = .returned (.int .i64 ((S.call [s.data.toList, u.data.toList]).2 : Int)) ∧ DK w' X (S.call [s.data.toList, u.data.toList]).1 ∧ Chg [X.d] w w' := by
  have hb : Below w.heap.size w (w.alloc (.cells #[.string s, .string u] 9)) := (Below.refl _ _).alloc (Nat.le_refl _) _
  refine (call_any X S (some ⟨w.heap.size, 0, none⟩) 2 2 [s, u] (by omega) (by simp; exact ⟨hs, hu⟩) hw.stop hw.fail _ (h.below hb) ?_).mono ?_
  · exact (Row.new w #[.string s, .string u] 9 (n := 2) (size := 1) rfl).up (by simp)
  · rintro e w' ⟨rfl, h1, h2⟩
    exact ⟨rfl, h1, (Chg.of_below hb [X.d]).trans h2 (fun g hg => .inl hg)⟩

set_option maxRecDepth 100000 in
set_option maxHeartbeats 1000000 in
theorem rename_any (X : Dw) (S : Sd) (s u : ByteArray) (hs : s.size ≤ maxLen) (hu : u.size ≤ maxLen) (hw : S.Wf) (hl : S.load ≤ 1099511627776) (w : World) (h : DK w X S) :
    Calls Tryz.prog 71 #[.pointer (some ⟨X.d, 0, none⟩), .string s, .string u] w fun e w' => e = .returned (.int .i64 ((S.rename s.data.toList u.data.toList).2 : Int)) ∧ Upd X w w' (S.rename s.data.toList u.data.toList).1 := by
  have hcall := call2 X S s u hs hu hw w h
  have hw1 := hw.call [s.data.toList, u.data.toList]
  have hld := Sd.call_load S [s.data.toList, u.data.toList]
  obtain ⟨e1, e2, e3, e4, e5, _, _⟩ := Sd.call_same S [s.data.toList, u.data.toList]
  have hsy : S.rename s.data.toList u.data.toList = if (S.call [s.data.toList, u.data.toList]).2 ≠ 0 then S.call [s.data.toList, u.data.toList] else if (S.names.get s.data.toList).isNone then ((S.call [s.data.toList, u.data.toList]).1, 11)
    else if s.data.toList = u.data.toList then ((S.call [s.data.toList, u.data.toList]).1, 0)
    else ({ (S.call [s.data.toList, u.data.toList]).1 with names := Tn.go ⟨2, 0, s.data.toList, u.data.toList⟩ S.names, turns := S.turns ++ [⟨2, 0, s.data.toList, u.data.toList⟩] }, 0) := rfl
  generalize S.call [s.data.toList, u.data.toList] = R at *
  obtain ⟨S1, er⟩ := R
  simp only at *
  by_cases h0 : er = 0
  · subst h0
    rw [if_neg (by simp)] at hsy
    have hfd := fun w1 h1 => find_any X S1 s hs w1 h1 hw1.names
    cases h3 : S.names.get s.data.toList with
    | none =>
      simp only [h3, Option.isNone_none, if_true] at hsy
      rw [hsy]
      simp only [e1, h3] at hfd
      clear hsy h3 e1 e2 e3 e4 e5 hw1 hw h hld
      go_enter Tryz.func71, Tryz.ntmps71
      go_wp2_with fail
      refine hcall.mono ?_
      rintro e w1 ⟨rfl, h1, hc1⟩
      go_wp2_with fail
      refine (hfd w1 h1).mono ?_
      rintro e w2 ⟨rfl, rfl⟩
      go_wp2
      go_ret
      exact ⟨rfl, Upd.called h1 hc1⟩
    | some i =>
      simp only [h3, Option.isNone_some, Bool.false_eq_true, if_false] at hsy
      by_cases hab : s = u
      · subst hab
        rw [if_pos rfl] at hsy
        rw [hsy]
        simp only [e1, h3] at hfd
        clear hsy h3 e1 e2 e3 e4 e5 hw1 hw h hld
        go_enter Tryz.func71, Tryz.ntmps71
        go_wp2_with fail
        refine hcall.mono ?_
        rintro e w1 ⟨rfl, h1, hc1⟩
        go_wp2_with fail
        refine (hfd w1 h1).mono ?_
        rintro e w2 ⟨rfl, rfl⟩
        unfold ptrV
        go_wp2
        go_ret
        exact ⟨rfl, Upd.called h1 hc1⟩
      have hab' : ¬s.data.toList = u.data.toList := fun e => hab (by rw [← str_list s, e, str_list])
      rw [if_neg hab'] at hsy
      have hbeq : (s.toList == u.toList) = false := by
        rw [ByteArray.toList_eq, ByteArray.toList_eq]
        simpa using hab'
      clear hab hab'
      rw [hsy, ← e1, ← e4]
      simp only [e1, h3] at hfd
      have hml : S1.turns.length + 1 ≤ 1099511627777 := by unfold Sd.load at hld hl; omega
      clear hsy h3 e1 e2 e3 e4 e5 hw h hld
      go_enter Tryz.func71, Tryz.ntmps71
      go_wp2_with fail
      refine hcall.mono ?_
      rintro e w1 ⟨rfl, h1, hc1⟩
      go_wp2_with fail
      refine (hfd w1 h1).mono ?_
      rintro e w2 ⟨rfl, rfl⟩
      unfold ptrV
      go_wp2
      have hbV : Below w1.heap.size w1 (w1.alloc (.cells #[.int .i64 2, .int .i64 0, .string s, .string u] 101)) := (Below.refl _ _).alloc (Nat.le_refl _) _
      have hbox := BoxO.new w1 #[.int .i64 2, .int .i64 0, .string s, .string u] 101
      have hlt : w1.heap.size < (w1.alloc (.cells #[.int .i64 2, .int .i64 0, .string s, .string u] 101)).heap.size := by simp
      have h2 := h1.below hbV
      have hup0 := Chg.of_below hbV X.foot
      generalize w1.alloc (.cells #[.int .i64 2, .int .i64 0, .string s, .string u] 101) = V at *
      have c0 := hbox.cell 0
      have c1 := hbox.cell 1
      have c2 := hbox.cell 2
      have c3 := hbox.cell 3
      have d2 := h2.box.cell 2
      simp only [Dw.cells, List.getElem?_cons_zero, List.getElem?_cons_succ] at c0 c1 c2 c3 d2
      have htb := h1.lt
      have hnamed := Lib.hid h2.names
      have hsm : S1.names.length < maxLen := by have := hw1.most; unfold maxLen; omega
      generalize w1.heap.size = tb at *
      go_still_tail 5, (by kernel_rfl)
      change wpList _ _ _ _ _ (World.drew V)
      go_wp2_with fail
      have hdo := do_any 2 0 s.data.toList u.data.toList (by simpa using hs) (by simpa using hu) (by omega) X.nb S1.names.length S1.names V.drew hnamed.out.drew hsm (by omega)
      simp only [turnV, str_list] at hdo
      refine hdo.mono ?_
      rintro e w3 ⟨rfl, hn3, hc3⟩
      have hc3' : Chg [X.nb] V w3 := (Chg.refl [X.nb] V).drew.trans hc3 (fun g hg => .inl hg)
      have h3 := h2.setNames hn3 hc3'
      have hbox3 := hbox.chg hc3' (by simp; have := htb X.nb (mem_foot.2 (.inr (.inl rfl))); omega)
      have c0 := hbox3.cell 0
      have c1 := hbox3.cell 1
      have c2 := hbox3.cell 2
      have c3 := hbox3.cell 3
      have d4 := h3.box.cell 4
      have f4 := h3.box.free 4
      have hxd := h3.box.lt
      obtain ⟨tA, tc, htv, _, _, _⟩ := own_form h3.turns
      simp only [Dw.cells, List.getElem?_cons_zero, List.getElem?_cons_succ] at c0 c1 c2 c3 d4
      rw [htv] at d4
      clear d2 hnamed hdo hn3
      have hrow4 := own_base h3.turns (Nat.zero_le _)
      rw [htv] at hrow4
      have hpre := fun (o : Obj) (w4 : World) (hg : ((w3.alloc o).drew).grownBy w4 (Value.slice tA S1.turns.length tc).ownBlock) => (⟨(grown_box h3 (by rw [htv]; exact hg)).cell 4, (grown_box h3 (by rw [htv]; exact hg)).free 4⟩ : w4.cell? ⟨X.d, 4, none⟩ = _ ∧ w4.frozen? ⟨X.d, 4, none⟩ = false)
      have hpost := fun (o : Obj) (w4 : World) (v : Value) (hg : ((w3.alloc o).drew).grownBy w4 (Value.slice tA S1.turns.length tc).ownBlock) hown hob => upd_turn (o := o) (w4 := w4) (v := v) h3 ⟨2, 0, s.data.toList, u.data.toList⟩ (by rw [htv]; exact hg) hown (by rw [htv]; exact hob)
      simp only [turnCells, str_list] at hpost
      have HPO := Lib.hid hpost
      have HPR := Lib.hid hpre
      have htr := fun (w5 : World) (S5 : Sd) (h : Upd X w3 w5 S5) => Upd.after hc1 (Upd.trans rfl (hup0.trans (hc3'.mono (fun g hg => .inl (by rw [List.mem_singleton.1 hg]; exact mem_foot.2 (.inr (.inl rfl))) : ∀ g ∈ [X.nb], g ∈ X.foot ∨ _)) (fun g hg => .inl hg)) (fun g hg => .inl hg) h)
      have HTR := Lib.hid htr
      clear hpost hpre htr
      obtain ⟨i0, hi0, hz0, hz1, hz2⟩ := info_parts info_turn
      go_wp2
      go_region_law (refine step_appF rfl (.tmp 39) (.tmp 41) _ rfl 0 101 i0 _ 4 48 Tryz.underlying72 hi0 hz0 hz1 hz2 rfl (by omega) (Nat.zero_le _) (.slice tA S1.turns.length tc) S1.turns.length _ rfl (hrow4.alloc _).drew _ (some ⟨w3.heap.size, 0, none⟩) 1 1 (by omega) [.int .i64 2, .int .i64 0, .string s, .string u] rfl (Row.new w3 #[.int .i64 2, .int .i64 0, .string s, .string u] 101 (n := 1) (size := 4) rfl).drew (by simp [Value.oneCell']) (S1.turns.length + 1) _ rfl rfl (by unfold maxLen; omega) (by omega) ?_; intro A4 c4 w4 hown4 hg4 _ _ hob4; obtain ⟨q4, q5⟩ := HPR.out _ _ hg4; have HO := Lib.hid (HTR.out _ _ (HPO.out _ _ _ hg4 hown4 hob4)); clear hg4 hown4 hob4; simp only [Dw.cells, List.getElem?_cons_zero, List.getElem?_cons_succ] at q4)
      all_goals
        go_wp2
        go_ret
        exact ⟨rfl, HO.out⟩
  · have hne := neq0 h0
    rw [if_pos h0] at hsy
    rw [hsy]
    clear hsy e1 e2 e3 e4 e5 h0 hld
    go_enter Tryz.func71, Tryz.ntmps71
    go_wp2_with fail
    refine hcall.mono ?_
    rintro e w1 ⟨rfl, h1, hc1⟩
    go_wp2
    go_ret
    exact ⟨rfl, Upd.called h1 hc1⟩
end Go.Proofs.YthepokgkfaocmaaGreatDoor
