/- Texts DiskE, DiskJ, DiskK, ManA, Env, PlainNum, NumA, NumB, NumC, PlainFrame, PlainEdit in one. No conditions. -/
import Derived.Test.YtdkjoigpahafmaaGreatDoorBunAA
import Derived.Test.YtdkjoigpahafmaaGreatDoorBunAB
import Derived.Test.YtdkjoigpahafmaaGreatDoorShelf
import Derived.Lib.MinMax
import Derived.Lib.LaidTab
import Derived.Lib.SmallJoins
import Derived.Lib.AppendIntMem
import Derived.Lib.ItoaLen
import Derived.Test.YtdkjoigpahafmaaGreatDoorRows
import Derived.Stop.LaidErr
import Derived.LaidLaws
import Derived.LaidHandle
import Derived.Below

set_option linter.unusedSimpArgs false
set_option linter.unusedVariables false
set_option maxRecDepth 100000
set_option maxHeartbeats 16000000
namespace Go.Proofs.YtdkjoigpahafmaaGreatDoor
section
open Go Go.RowKit Go.Maps
theorem call1 (X : Dw) (S : Sd) (s : ByteArray) (hs : s.size ≤ maxLen) (hw : S.Wf) (w : World) (h : DK w X S) :
  Calls Tryz.prog 157 #[.pointer (some ⟨X.d, 0, none⟩), .slice (some ⟨w.heap.size, 0, none⟩) 1 1] (w.alloc (.cells #[.string s] 9)) fun e w' => e = .returned (.int .i64 ((S.call [s.data.toList]).2 : Int)) ∧ DK w' X (S.call [s.data.toList]).1 ∧ Chg [X.d] w w' := by
 have hb : Below w.heap.size w (w.alloc (.cells #[.string s] 9)) := (Below.refl _ _).alloc (Nat.le_refl _) _
 refine (call_any X S (some ⟨w.heap.size, 0, none⟩) 1 1 [s] (by omega) (by simpa using hs) hw.stop hw.fail _ (h.below hb) ?_).mono ?_
 ·exact (Row.new w #[.string s] 9 (n := 1) (size := 1) rfl).up (by simp)
 ·rintro e w' ⟨rfl, h1, h2⟩
  exact ⟨rfl, h1, (Chg.of_below hb [X.d]).trans h2 (fun g hg => .inl hg)⟩
theorem read_any (X : Dw) (S : Sd) (s : ByteArray) (hs : s.size ≤ maxLen) (hw : S.Wf) (w : World) (h : DK w X S) :
  Calls Tryz.prog 125 #[.pointer (some ⟨X.d, 0, none⟩), .string s] w fun e w' => ∃ A c, e = .returned (.tuple #[.slice A (S.read s.data.toList).1.length c, .int .i64 ((S.read s.data.toList).2 : Int)]) ∧
   w'.ownsRow w.heap.size 5 1 (.slice A (S.read s.data.toList).1.length c) (S.read s.data.toList).1.length (bts (S.read s.data.toList).1) ∧ Below w.heap.size w w' := by
 have nil := fun W : World => World.ownsRow_nil W w.heap.size 5 1
 have hnm := named_any s hs w
 have hdd := dead_any X.d S.dead w (by rw [h.box.cell 6]; rfl)
 have hfd := find_any X S s hs w h hw.names
 cases h1 : Sd.named s.data.toList with
 | false =>
  have e1 : S.read s.data.toList = ([], 10) := by simp [Sd.read, h1]
  rw [e1]
  rw [h1] at hnm
  clear h1 e1
  go_enter Tryz.func125, Tryz.ntmps125
  go_wp2_with fail
  refine hnm.mono ?_
  rintro e w1 ⟨rfl, rfl⟩
  go_wp2
  go_ret2
  exact ⟨_, _, rfl, nil w, Below.refl _ _⟩
 | true =>
  rw [h1] at hnm
  cases h2 : S.dead with
  | true =>
   have e1 : S.read s.data.toList = ([], 50) := by simp [Sd.read, h1, h2]
   rw [e1]
   rw [h2] at hdd
   clear h1 h2 e1
   go_enter Tryz.func125, Tryz.ntmps125
   go_wp2_with fail
   refine hnm.mono ?_
   rintro e w1 ⟨rfl, rfl⟩
   go_wp2_with fail
   refine hdd.mono ?_
   rintro e w1 ⟨rfl, rfl⟩
   go_wp2
   go_ret2
   exact ⟨_, _, rfl, nil w, Below.refl _ _⟩
  | false =>
   rw [h2] at hdd
   cases h3 : S.names.get s.data.toList with
   | none =>
    have e1 : S.read s.data.toList = ([], 11) := by simp [Sd.read, h1, h2, h3]
    rw [e1]
    rw [h3] at hfd
    clear h1 h2 h3 e1
    go_enter Tryz.func125, Tryz.ntmps125
    go_wp2_with fail
    refine hnm.mono ?_
    rintro e w1 ⟨rfl, rfl⟩
    go_wp2_with fail
    refine hdd.mono ?_
    rintro e w1 ⟨rfl, rfl⟩
    go_wp2_with fail
    refine hfd.mono ?_
    rintro e w1 ⟨rfl, rfl⟩
    go_wp2
    go_ret2
    exact ⟨_, _, rfl, nil w, Below.refl _ _⟩
   | some i =>
    have hi : i < S.files.length := hw.names _ (Nm.get_mem h3)
    have hip : i < X.ps.length := by rw [h.flen]; exact hi
    have e1 : S.read s.data.toList = (S.files[i].1, 0) := by simp [Sd.read, h1, h2, h3, hi]
    rw [e1]
    rw [h3] at hfd
    have hptr : X.ps.getD i (0, Go.undef) = X.ps[i] := by simp [List.getD_eq_getElem?_getD, hip]
    simp only [hptr, ptrV] at hfd
    obtain ⟨hfb, hfr⟩ := h.file i hi hip
    have hlen := (hw.file i hi).2
    generalize S.files[i] = f at *
    generalize X.ps[i] = p at *
    have e0 := hfb.cell 0
    simp only [gE0] at e0
    obtain ⟨fA, fc, hfv2, _, _, _⟩ := own_form hfr
    rw [hfv2] at e0 hfr
    have hrow := Row.own hfr
    obtain ⟨i0, hi0, hz0, hz1, hz2⟩ := info_parts info_u8
    clear h1 h2 h3 e1 hptr hfv2
    go_enter Tryz.func125, Tryz.ntmps125
    go_wp2_with fail
    refine hnm.mono ?_
    rintro e w1 ⟨rfl, rfl⟩
    go_wp2_with fail
    refine hdd.mono ?_
    rintro e w1 ⟨rfl, rfl⟩
    go_wp2_with fail
    refine hfd.mono ?_
    rintro e w1 ⟨rfl, rfl⟩
    go_wp2_with fail
    refine hfd.mono ?_
    rintro e w1 ⟨rfl, rfl⟩
    go_wp2_with (at_builtin; refine stop_in ?_)
    refine stop_out (wpList_app0 rfl (.const (.slice none 0 0)) (.tmp 23) _ rfl w.heap.size 5 i0 _ 1 1 Tryz.underlying121 hi0 hz0 hz1 hz2 rfl (by omega) w (Below.refl _ _) (Nat.le_refl _) rfl w.heap.size fA f.1.length fc (bts f.1) rfl hrow (bts_one _) (by unfold maxLen; omega) (by omega) ?_)
    intro A2 c2 w2 hown2 hb2 _ _ _
    go_wp2
    go_ret2
    exact ⟨_, _, rfl, hown2, hb2⟩
theorem Upd.after {X : Dw} {w w1 w2 : World} {S2 : Sd} (h1 : Chg [X.d] w w1) (h2 : Upd X w1 w2 S2) : Upd X w w2 S2 := by
 obtain ⟨X', e, h, c, hf⟩ := h2
 refine ⟨X', e, h, (h1.mono (fun g hg => .inl ?_)).trans c (fun g hg => .inl hg), fun g hg => ?_⟩
 ·rw [List.mem_singleton.1 hg]
  exact mem_foot.2 (.inl rfl)
 ·rcases hf g hg with h3 | h3
  ·exact .inl h3
  ·exact .inr (Nat.le_trans h1.size h3)
theorem Upd.called {X : Dw} {w w1 : World} {S1 : Sd} (h : DK w1 X S1) (h1 : Chg [X.d] w w1) : Upd X w w1 S1 := Upd.after h1 (Upd.same h (Chg.refl _ _))
theorem neq0 {n : Nat} (h : n ≠ 0) : (((n : Int) != 0)) = true := by simp [h]
theorem file_foot {X : Dw} {i : Nat} (hi : i < X.ps.length) {g : Nat} (hg : g ∈ fileFoot X.ps[i]) : g ∈ X.foot := mem_foot.2 (.inr (.inr (.inr (.inr (.inr ⟨_, List.getElem_mem hi, hg⟩)))))
theorem foot_set {X : Dw} {i : Nat} (hi : i < X.ps.length) {v : Value} {n : Nat} (hv : ∀ g, v.ownBlock = some g → (X.ps[i]).2.ownBlock = some g ∨ n ≤ g) : ∀ g ∈ ({ X with ps := X.ps.set i ((X.ps[i]).1, v) } : Dw).foot, g ∈ X.foot ∨ n ≤ g := by
 intro g hg
 rcases mem_foot.1 hg with h | h | h | h | h | ⟨p, hp, hgp⟩
 ·exact .inl (mem_foot.2 (.inl h))
 ·exact .inl (mem_foot.2 (.inr (.inl h)))
 ·exact .inl (mem_foot.2 (.inr (.inr (.inl h))))
 ·exact .inl (mem_foot.2 (.inr (.inr (.inr (.inl h)))))
 ·exact .inl (mem_foot.2 (.inr (.inr (.inr (.inr (.inl h))))))
 ·rcases List.mem_or_eq_of_mem_set hp with h1 | h1
  ·exact .inl (mem_foot.2 (.inr (.inr (.inr (.inr (.inr ⟨p, h1, hgp⟩))))))
  ·subst h1
   simp only [fileFoot, List.mem_cons, Option.mem_toList] at hgp
   rcases hgp with h2 | h2
   ·exact .inl (file_foot hi (by simp [fileFoot, h2]))
   ·rcases hv g h2 with h3 | h3
    ·exact .inl (file_foot hi (by simp [fileFoot, h3]))
    ·exact .inr h3
theorem sync_any (X : Dw) (S : Sd) (s : ByteArray) (hs : s.size ≤ maxLen) (hw : S.Wf) (w : World) (h : DK w X S) :
  Calls Tryz.prog 173 #[.pointer (some ⟨X.d, 0, none⟩), .string s] w fun e w' => e = .returned (.int .i64 ((S.sync s.data.toList).2 : Int)) ∧ Upd X w w' (S.sync s.data.toList).1 := by
 have hcall := call1 X S s hs hw w h
 have hw1 := hw.call [s.data.toList]
 obtain ⟨e1, e2, e3, e4, e5, _, _⟩ := Sd.call_same S [s.data.toList]
 have hsy : S.sync s.data.toList = if (S.call [s.data.toList]).2 ≠ 0 then S.call [s.data.toList] else match S.names.get s.data.toList with
  | none => ((S.call [s.data.toList]).1, 11)
  | some i => ({ (S.call [s.data.toList]).1 with files := S.files.set i ((S.files.getD i ([], 0)).1, S.size i) }, 0) := rfl
 generalize S.call [s.data.toList] = R at *
 obtain ⟨S1, er⟩ := R
 simp only at *
 by_cases h0 : er = 0
 ·subst h0
  rw [if_neg (by simp)] at hsy
  have hfd := fun w1 h1 => find_any X S1 s hs w1 h1 hw1.names
  cases h3 : S.names.get s.data.toList with
  | none =>
   simp only [h3] at hsy
   rw [hsy]
   simp only [e1, h3] at hfd
   clear hsy h3 e1 e2 e3 e4 e5 hw1 hw h
   go_enter Tryz.func173, Tryz.ntmps173
   go_wp2_with fail
   refine hcall.mono ?_
   rintro e w1 ⟨rfl, h1, hc1⟩
   go_wp2_with fail
   refine (hfd w1 h1).mono ?_
   rintro e w2 ⟨rfl, rfl⟩
   go_wp2
   go_ret
   exact ⟨rfl, Upd.called h1 hc1⟩
  | some i =>
   simp only [h3] at hsy
   rw [hsy]
   simp only [e1, h3] at hfd
   have hi : i < S1.files.length := by rw [e3]; exact hw.names _ (Nm.get_mem h3)
   have hsz : S.size i = (S1.files[i]).1.length := by simp [Sd.size, ← e3, List.getD_eq_getElem?_getD, hi]
   have hgd : (S.files.getD i ([], 0)).1 = (S1.files[i]).1 := by simp [← e3, List.getD_eq_getElem?_getD, hi]
   have hlen := (hw1.file i hi).2
   obtain ⟨f, hf⟩ : ∃ f, f = S1.files[i] := ⟨_, rfl⟩
   rw [← hf] at hsz hgd hlen
   have HE : Hid (({ S1 with files := S.files.set i ((S.files.getD i ([], 0)).1, S.size i) } : Sd) = { S1 with files := S1.files.set i (f.1, f.1.length) }) := by
    rw [hsz, hgd, ← e3]; exact rfl
   rw [HE.out]
   have HF := Lib.hid hf
   clear hf hsy h3 e1 e2 e4 e5 e3 hsz hgd hw HE h
   go_enter Tryz.func173, Tryz.ntmps173
   go_wp2_with fail
   refine hcall.mono ?_
   rintro e w1 ⟨rfl, h1, hc1⟩
   go_wp2_with fail
   have hip : i < X.ps.length := by rw [h1.flen]; exact hi
   have hptr : X.ps.getD i (0, Go.undef) = X.ps[i] := by simp [List.getD_eq_getElem?_getD, hip]
   refine (hfd w1 h1).mono ?_
   rintro e w2 ⟨rfl, rfl⟩
   rw [hptr]
   have hfile : FileAt w1 X.ps[i] f := by rw [show f = _ from HF.out]; exact h1.file i hi hip
   have hself := h1.apart.self _ (List.getElem_mem hip)
   have hv := fun g (e : (X.ps[i]).2.ownBlock = some g) => (.inl e : (X.ps[i]).2.ownBlock = some g ∨ w1.heap.size ≤ g)
   have key := fun (w2 : World) (hf : FileAt w2 ((X.ps[i]).1, (X.ps[i]).2) (f.1, f.1.length)) (c : Chg (fileFoot X.ps[i]) w1 w2) => DK.setFile h1 hip hf c hv
   have hfo := foot_set hip hv
   have hffo := fun g hg => file_foot (X := X) (i := i) hip (g := g) hg
   generalize X.ps[i] = p at *
   obtain ⟨hfb, hfr⟩ := hfile
   have hset := hfb.store 1 (.int .i64 (f.1.length : Int))
   have hcs := chg_set w1 ⟨p.1, 1, none⟩ (.int .i64 (f.1.length : Int))
   have hrow := own_chg hfr hcs (fun g e hg => hself (by rw [e]; simpa using hg))
   have hcm : Chg (fileFoot p) w1 (w1.setCell ⟨p.1, 1, none⟩ (.int .i64 (f.1.length : Int))) := hcs.mono (fun g hg => .inl (by simpa [fileFoot] using Or.inl hg))
   have hdk := key _ ⟨hset, hrow⟩ hcm
   have e0 := hfb.cell 0
   have e1 := hfb.cell 1
   have f1 := hfb.free 1
   simp only [gE0, gE1] at e0 e1
   obtain ⟨fA, fc, hfv2, _, _, _⟩ := own_form hfr
   have hup : Upd X w (w1.setCell ⟨p.1, 1, none⟩ (.int .i64 (f.1.length : Int))) { S1 with files := S1.files.set i (f.1, f.1.length) } := Upd.after hc1 ⟨{ X with ps := X.ps.set i (p.1, p.2) }, rfl, hdk, hcm.mono (fun g hg => .inl (hffo g hg)), hfo⟩
   have HU := Lib.hid hup
   rw [hfv2] at e0
   clear hup hdk hcm hset hcs hrow key hfo hv hself hptr hfv2 hfr hfb hffo
   unfold ptrV
   go_wp2
   go_ret
   exact ⟨rfl, HU.out⟩
 ·have hne := neq0 h0
  rw [if_pos h0] at hsy
  rw [hsy]
  clear hsy e1 e2 e3 e4 e5 h0
  go_enter Tryz.func173, Tryz.ntmps173
  go_wp2_with fail
  refine hcall.mono ?_
  rintro e w1 ⟨rfl, h1, hc1⟩
  go_wp2
  go_ret
  exact ⟨rfl, Upd.called h1 hc1⟩
end
section
open Go Go.RowKit Go.Maps Go.Shelf
theorem DK.remap {w w' : World} {X : Dw} {S S' : Sd} (h : DK w X S) {b1 b2 : Nat} (c : Chg [X.d] w w') (hb1 : NamesAt w' b1 S'.names.length S'.names) (hb2 : NamesAt w' b2 S'.lasted.length S'.lasted)
  (h1 : b1 = X.nb ∨ b1 = X.lb ∨ w.heap.size ≤ b1) (h2 : w.heap.size ≤ b2) (h12 : b1 ≠ b2) (hb : BoxO w' 105 X.d (({ X with nb := b1, lb := b2, tv := .slice none 0 0 } : Dw).cells S')) (e3 : S'.files = S.files) (e4 : S'.turns = []) :
  DK w' { X with nb := b1, lb := b2, tv := .slice none 0 0 } S' := by
 have a := h.apart
 have hl := h.lt
 obtain ⟨q, fs, nm, la, tu, ca, de, st, fa⟩ := S'
 simp only at e3 e4
 subst e3 e4
 refine ⟨hb, hb1, hb2, own_chg h.files c (fun g e => by simpa using (a.fv g e).1), fun i hi h3 => (h.file i hi h3).chg c (fun g e => by simpa using (a.ps _ (List.getElem_mem h3) g e).1), ?_, ?_⟩
 ·simpa using World.ownsRow_nil _ _ _ _
 ·have hnd := h.nodup
  unfold Dw.foot at hnd ⊢
  have hsub : (X.fv.ownBlock.toList ++ X.ps.flatMap fileFoot).Nodup := by
   refine List.Nodup.sublist ?_ hnd
   refine List.Sublist.trans ?_ (List.sublist_append_right _ _)
   refine List.Sublist.trans ?_ (List.sublist_append_right _ _)
   refine List.Sublist.trans ?_ (List.sublist_append_right _ _)
   exact List.Sublist.append (List.Sublist.refl _) (List.sublist_append_right _ _)
  have hmem : ∀ g ∈ X.fv.ownBlock.toList ++ X.ps.flatMap fileFoot, g ≠ X.d ∧ g ≠ X.nb ∧ g ≠ X.lb ∧ g < w.heap.size := fun g hg => by
   rcases List.mem_append.1 hg with h3 | h3
   ·have h4 : X.fv.ownBlock = some g := by simpa using h3
    exact ⟨(a.fv g h4).1, (a.fv g h4).2.1, (a.fv g h4).2.2.1, hl g (mem_foot.2 (.inr (.inr (.inr (.inl h4)))))⟩
   ·obtain ⟨p, hp, hgp⟩ := List.mem_flatMap.1 h3
    exact ⟨(a.ps p hp g hgp).1, (a.ps p hp g hgp).2.1, (a.ps p hp g hgp).2.2.1, hl g (mem_foot.2 (.inr (.inr (.inr (.inr (.inr ⟨p, hp, hgp⟩))))))⟩
  have hd := h.box.lt
  have hb1lt : b1 ≠ X.d := by
   rcases h1 with h1 | h1 | h1
   ·rw [h1]; exact a.d_nb.symm
   ·rw [h1]; exact a.d_lb.symm
   ·omega
  have hno : (Value.slice none 0 0).ownBlock.toList = [] := rfl
  simp only [hno, List.nil_append, List.singleton_append]
  refine List.nodup_cons.2 ⟨fun hm => ?_, List.nodup_cons.2 ⟨fun hm => ?_, List.nodup_cons.2 ⟨fun hm => ?_, hsub⟩⟩⟩
  ·rcases List.mem_cons.1 hm with h3 | hm
   ·exact hb1lt h3.symm
   ·rcases List.mem_cons.1 hm with h3 | hm
    ·omega
    ·exact (hmem _ hm).1 rfl
  ·rcases List.mem_cons.1 hm with h3 | hm
   ·exact h12 h3
   ·obtain ⟨m1, m2, m3, m4⟩ := hmem _ hm
    rcases h1 with h1 | h1 | h1
    ·exact m2 h1
    ·exact m3 h1
    ·omega
  ·have := (hmem _ hm).2.2.2
   omega
theorem syncDir_any (X : Dw) (S : Sd) (hw : S.Wf) (w : World) (h : DK w X S) :
  Calls Tryz.prog 174 #[.pointer (some ⟨X.d, 0, none⟩)] w fun e w' => e = .returned (.int .i64 ((S.syncDir).2 : Int)) ∧ Upd X w w' (S.syncDir).1 := by
 have hcall := call_any X S none 0 0 [] (by omega) (by simp) hw.stop hw.fail w h Row.nil_
 have hte : texts [] = [] := rfl
 rw [hte] at hcall
 obtain ⟨e1, e2, e3, e4, e5, _, _⟩ := Sd.call_same S []
 have hsy : S.syncDir = if (S.call []).2 ≠ 0 then S.call [] else ({ (S.call []).1 with lasted := S.names, turns := [] }, 0) := rfl
 generalize S.call [] = R at *
 obtain ⟨S1, er⟩ := R
 simp only at *
 by_cases h0 : er = 0
 ·subst h0
  rw [if_neg (by simp)] at hsy
  rw [hsy, ← e1]
  clear hsy e1 e2 e3 e4 e5 h hte
  go_enter Tryz.func174, Tryz.ntmps174
  go_wp2_with fail
  refine hcall.mono ?_
  rintro e w1 ⟨rfl, h1, hc1⟩
  have d2 := h1.box.cell 2
  simp only [Dw.cells, gE0, gE1] at d2
  have hcl := AnyW.maps_Clone_owns Tryz.clone59 9 (plainElem (H := Unit) Tryz.prog 3) X.nb _ _ w1 h1.names
  go_wp2_with fail
  refine hcl.mono ?_
  rintro e w2 ⟨rfl, hn2, hn1, hb2⟩
  have h2 := h1.below hb2
  have d3 := h2.box.cell 3
  have d4 := h2.box.cell 4
  have f3 := h2.box.free 3
  have f4 := h2.box.free 4
  simp only [Dw.cells, gE0, gE1] at d3 d4
  have hbx := (h2.box.store 3 (.map (some w1.heap.size))).store 4 (.slice none 0 0)
  have hcs : Chg [X.d] w1 ((w2.setCell ⟨X.d, 3, none⟩ (.map (some w1.heap.size))).setCell ⟨X.d, 4, none⟩ (.slice none 0 0)) := ((Chg.of_below hb2 [X.d]).setCell _ (.inl (by simp))).setCell _ (.inl (by simp))
  have hcs2 : Chg [X.d] w2 ((w2.setCell ⟨X.d, 3, none⟩ (.map (some w1.heap.size))).setCell ⟨X.d, 4, none⟩ (.slice none 0 0)) := ((Chg.refl [X.d] w2).setCell _ (.inl (by simp))).setCell _ (.inl (by simp))
  have hlt := h1.box.lt
  have hnlt := h1.names.lt
  have hdk := DK.remap (b1 := X.nb) (b2 := w1.heap.size) (S' := { S1 with lasted := S1.names, turns := [] }) h1 hcs (map_chg hn1 hcs2 (by simpa using h1.apart.d_nb.symm)) (map_chg hn2 hcs2 (by simp; omega)) (.inl rfl) (Nat.le_refl _) (by omega) hbx rfl rfl
  have hup : Upd X w _ _ := Upd.after hc1 ⟨{ X with nb := X.nb, lb := w1.heap.size, tv := .slice none 0 0 }, rfl, hdk, hcs.mono (fun g hg => .inl (by rw [List.mem_singleton.1 hg]; exact mem_foot.2 (.inl rfl))), fun g hg => by
   rcases mem_foot.1 hg with h5 | h5 | h5 | h5 | h5 | h5
   ·exact .inl (mem_foot.2 (.inl h5))
   ·exact .inl (mem_foot.2 (.inr (.inl h5)))
   ·exact .inr (Nat.le_of_eq (show g = w1.heap.size from h5).symm)
   ·exact .inl (mem_foot.2 (.inr (.inr (.inr (.inl h5)))))
   ·cases h5
   ·exact .inl (mem_foot.2 (.inr (.inr (.inr (.inr (.inr h5))))))⟩
  have HU := Lib.hid hup
  clear hup hdk hcs hcs2 hbx hn2 hn1 hb2 h2 h1 hcl hc1
  go_wp2
  go_ret
  exact ⟨rfl, HU.out⟩
 ·have hne := neq0 h0
  rw [if_pos h0] at hsy
  rw [hsy]
  clear hsy e1 e2 e3 e4 e5 h0 hte
  go_enter Tryz.func174, Tryz.ntmps174
  go_wp2_with fail
  refine hcall.mono ?_
  rintro e w1 ⟨rfl, h1, hc1⟩
  go_wp2
  go_ret
  exact ⟨rfl, Upd.called h1 hc1⟩
theorem emptyNames {w : World} {b : Nat} (hb : w.heap[b]? = some (.map #[] 0)) : NamesAt w b 0 [] := by
 have h := (World.ownsMap_made (H := Unit) w Tryz.prog 9 (plainElem (H := Unit) Tryz.prog 3))
 obtain ⟨es, clock, h1, F, hs, hD⟩ := h
 rw [heap_alloc_new] at h1
 injection h1 with h1
 injection h1 with h1 h2
 subst h1 h2
 exact ⟨#[], 0, hb, F, hs, hD⟩
theorem dnew_any (q : Int) (w : World) : Calls Tryz.prog 14 #[.int .i64 q] w fun e w' => ∃ X : Dw, e = .returned (.pointer (some ⟨X.d, 0, none⟩)) ∧ DK w' X (Sd.new q) ∧ Below w.heap.size w w' ∧ ∀ g ∈ X.foot, w.heap.size ≤ g := by
 have hmm := @run_makeMap Tryz.prog
 go_enter Tryz.func14, Tryz.ntmps14
 go_wp2
 generalize hob : (Obj.cells #[.int .i64 (max q 0), .slice none 0 0, .map (some w.heap.size), .map (some (w.heap.size + 1)), .slice none 0 0, .int .i64 0, .bool false, .int .i64 0, .int .i64 0] 105) = ob
 have hq0 : ((q.toNat : Nat) : Int) = max q 0 := by omega
 have hs1 : ((w.alloc (.map #[] 0)).alloc (.map #[] 0)).heap.size = w.heap.size + 2 := by simp
 have hn1 : NamesAt (((w.alloc (.map #[] 0)).alloc (.map #[] 0)).alloc ob) w.heap.size 0 [] := emptyNames (by
  rw [Below.heap_alloc _ _ _ (by simp; omega), Below.heap_alloc _ _ _ (by simp)]
  exact (MapKept.heap_alloc w _).1)
 have hn2 : NamesAt (((w.alloc (.map #[] 0)).alloc (.map #[] 0)).alloc ob) (w.heap.size + 1) 0 [] := emptyNames (by
  rw [Below.heap_alloc _ _ _ (by simp)]
  have := (MapKept.heap_alloc (w.alloc (.map #[] 0)) (.map #[] 0)).1
  simpa using this)
 have hbx : BoxO (((w.alloc (.map #[] 0)).alloc (.map #[] 0)).alloc ob) 105 (w.heap.size + 2) (({ d := w.heap.size + 2, nb := w.heap.size, lb := w.heap.size + 1, fv := .slice none 0 0, tv := .slice none 0 0, ps := [] } : Dw).cells (Sd.new q)) := by
  have h1 := BoxO.new ((w.alloc (.map #[] 0)).alloc (.map #[] 0)) #[.int .i64 (max q 0), .slice none 0 0, .map (some w.heap.size), .map (some (w.heap.size + 1)), .slice none 0 0, .int .i64 0, .bool false, .int .i64 0, .int .i64 0] 105
  rw [hob, hs1] at h1
  unfold Dw.cells Sd.new
  simp only [hq0]
  exact h1
 have hB : Below w.heap.size w (((w.alloc (.map #[] 0)).alloc (.map #[] 0)).alloc ob) := (((Below.refl _ _).alloc (Nat.le_refl _) _).alloc (by simp) _).alloc (by simp; omega) _
 have hft : ∀ g ∈ ({ d := w.heap.size + 2, nb := w.heap.size, lb := w.heap.size + 1, fv := .slice none 0 0, tv := .slice none 0 0, ps := [] } : Dw).foot, w.heap.size ≤ g := fun g hg => by
  rcases mem_foot.1 hg with h | h | h | h | h | ⟨p, hp, _⟩
  ·simp only at h; omega
  ·simp only at h; omega
  ·simp only at h; omega
  ·simp [Value.ownBlock] at h
  ·simp [Value.ownBlock] at h
  ·cases hp
 have hdk : DK (((w.alloc (.map #[] 0)).alloc (.map #[] 0)).alloc ob) { d := w.heap.size + 2, nb := w.heap.size, lb := w.heap.size + 1, fv := .slice none 0 0, tv := .slice none 0 0, ps := [] } (Sd.new q) :=
  ⟨hbx, hn1, hn2, World.ownsRow_nil _ _ _ _, fun i hi => (by simp [Sd.new] at hi), World.ownsRow_nil _ _ _ _, by simp [Dw.foot, Value.ownBlock]⟩
 go_ret
 exact ⟨_, rfl, hdk, hB, hft⟩
end
section
open Go Go.RowKit Go.Maps Go.Sort Go.Shelf
theorem sorts_in (m : Nat) : AnyZ.SortsIn Tryz.prog Tryz.sorted183_ren Fence.wide m :=
 ⟨fun blk off cap ss W hH hblk hsz => callsIn_wide.2 (AnyM.slices_Sort_string Tryz.sort225 blk off cap ss W hH hblk hsz),
  fun p cap W => callsIn_wide.2 (AnyM.slices_Sort_string_none Tryz.sort225 p cap W)⟩
theorem keys_call (mb : Option Nat) (W : World) : CallsIn Fence.wide 5 Tryz.prog 184 #[.map mb] W fun e w' => e = .returned (.func (.func 226) #[] #[.pointer (some ⟨W.heap.size, 0, none⟩)]) ∧ w' = W.alloc (.cells #[.map mb] 101) :=
 AnyZ.keys_in Tryz.keys184 Fence.wide 5 trivial rfl mb W
theorem sorted_call {H : Type} (b nn : Nat) (D0 : DataW H) (R : Value → Option (DataW H × List MemPlace)) (w : World) (hown : w.ownsMap Tryz.prog 9 R b nn D0) (hmax : Maps.size D0 ≤ maxLen) (hbytes : Maps.size D0 * 16 ≤ 140737488355328) :
  CallsIn Fence.wide 5 Tryz.prog 183 #[.func (.func 226) #[] #[.pointer (some ⟨w.heap.size, 0, none⟩)]] (w.alloc (.cells #[.map (some b)] 101)) fun e w' => ∃ (v : Value) (ss : List (List UInt8)), e = .returned v ∧ ss.Perm (strKeys D0) ∧
   w'.ownsRow (w.alloc (.cells #[.map (some b)] 101)).heap.size 9 1 v ss.length ((ss.mergeSort (fun x y => decide (x ≤ y))).map encStr) ∧ (v = .slice none 0 0 ↔ ss = []) ∧ Below (w.alloc (.cells #[.map (some b)] 101)).heap.size (w.alloc (.cells #[.map (some b)] 101)) w' := by
 have hbl := hown.lt
 have hseq : SeqGives Fence.wide 2 Tryz.prog 226 #[.pointer (some ⟨w.heap.size, 0, none⟩)] encStr (fun ss => ss.Perm (strKeys D0)) (Maps.size D0) (w.alloc (.cells #[.map (some b)] 101)) :=
  AnyZ.keys_gives (ρ := Tryz.keys184_ren) { Tryz.keys184 with } Fence.wide _ trivial rfl (by omega) w.heap.size b nn D0 _ (by simp) (by simp) (by
   obtain ⟨es, clock, hb, Ft, hs, hD⟩ := hown
   exact ⟨es, clock, (Below.heap_alloc _ _ b hbl).trans hb, Ft, hs, hD⟩)
 exact AnyZ.sorted_in Tryz.sorted183 Fence.wide 5 trivial trivial trivial trivial rfl (by omega) (sorts_in _) (enters_of Tryz.func225 (by kernel_rfl) rfl) 226 #[.pointer (some ⟨w.heap.size, 0, none⟩)] trivial (enters_of Tryz.func226 (by kernel_rfl) rfl) _ _ hmax hbytes _ hseq
theorem strKeys_enc (m : Nm) : strKeys (Nm.enc m) = m.map (·.1) := by simp [Nm.enc, strKeys, Nm.lit1, strOf]
theorem dlist_any (X : Dw) (S : Sd) (hw : S.Wf) (w : World) (h : DK w X S) : Calls Tryz.prog 123 #[.pointer (some ⟨X.d, 0, none⟩)] w fun e w' =>
  ∃ A c, e = .returned (.slice A S.list.length c) ∧ w'.ownsRow w.heap.size 9 1 (.slice A S.list.length c) S.list.length (S.list.map encStr) ∧ Below w.heap.size w w' := by
 have d6 := h.box.cell 6
 have d2 := h.box.cell 2
 simp only [Dw.cells, gE0, gE1] at d2 d6
 have hdd := dead_any X.d S.dead w d6
 cases hd : S.dead with
 | true =>
  have hli : S.list = [] := by simp [Sd.list, hd]
  rw [hli]
  rw [hd] at hdd
  clear hd hli d6 d2
  go_enter Tryz.func123, Tryz.ntmps123
  go_wp2_with fail
  refine hdd.mono ?_
  rintro e w1 ⟨rfl, rfl⟩
  go_wp2
  go_ret
  exact ⟨_, _, rfl, World.ownsRow_nil _ _ _ _, Below.refl _ _⟩
 | false =>
  have hli : S.list = (S.names.map (·.1)).mergeSort fun x y => decide (x ≤ y) := by simp [Sd.list, hd]
  have hn := h.names
  have hsz := Nm.enc_size S.names
  have hm := hw.most
  rw [hd] at hdd
  have HL := Lib.hid hli
  obtain ⟨L, hL⟩ : ∃ L, L = S.list := ⟨_, rfl⟩
  rw [← hL]
  have HLL := Lib.hid hL
  clear hd hli d6 hL
  have hcall := fun w0 (hn0 : NamesAt w0 X.nb S.names.length S.names) => sorted_call X.nb _ _ _ w0 hn0 (by rw [hsz]; unfold maxLen; omega) (by rw [hsz]; omega)
  clear hsz
  have HC := Lib.hid hcall
  clear hcall
  refine (callsIn_wide (n := 6)).1 ?_
  have hfK : Fence.wide.fn 184 := trivial
  have hfS : Fence.wide.fn 183 := trivial
  have hfD : Fence.wide.fn 60 := trivial
  refine callsIn_of_wp Tryz.func123 rfl trivial ?_ rfl
  simp only [Tryz.ntmps123, List.size_toArray, List.length_cons, List.length_nil, Nat.reduceAdd, Nat.reduceSub, Array.replicate_succ, Array.replicate_zero, List.push_toArray, List.append_toArray, List.nil_append, List.cons_append]
  gi_wp2_with (first
   | (gi_at_call 60; refine (callsIn_wide.2 hdd).mono ?_; rintro e w' ⟨rfl, rfl⟩)
   | (gi_at_call 184; refine (keys_call _ _).mono ?_; rintro e w' ⟨rfl, rfl⟩)
   | (gi_at_call 183; refine (HC.out _ hn).mono ?_; rintro e w' ⟨v, ss, rfl, hS, hrow, hnil, hb⟩))
  have e1 : L = ss.mergeSort (fun x y => decide (x ≤ y)) := by
   rw [strKeys_enc] at hS
   rw [show L = _ from HLL.out, show S.list = _ from HL.out]
   exact (mergeSort_of_perm hS).symm
  have e2 : ss.length = L.length := by rw [e1, List.length_mergeSort]
  rw [← e1, e2] at hrow
  obtain ⟨A, c, rfl, _⟩ := own_form hrow
  go_ret
  exact ⟨_, _, rfl, own_base hrow (by simp), ((Below.refl _ w).alloc (Nat.le_refl _) _).trans (hb.mono (by simp))⟩
end
section
open Go Go.RowKit Go.Shelf
structure Env (w : World) : Prop where
 tab : Lib.TabIs Tryz.prog w "internal/strconv.uint64pow10" .u64 Lib.pow10Tab
 syn : ∃ t p, w.var? Tryz.prog "strconv.ErrSyntax" = some #[.iface t p]
 rng : ∃ t p, w.var? Tryz.prog "strconv.ErrRange" = some #[.iface t p]
noncomputable def gOf (n : String) : Nat := (Tryz.prog.globalNamed n).getD 0
noncomputable def NG : Nat := max (gOf "internal/strconv.uint64pow10") (max (gOf "strconv.ErrSyntax") (gOf "strconv.ErrRange")) + 1
theorem var_chg {w w' : World} {G : List Nat} {n : String} {cs : Array Value} {g : Nat} (hg : Tryz.prog.globalNamed n = some g) (h : w.var? Tryz.prog n = some cs) (c : Chg G w w') (hG : g ∉ G) : w'.var? Tryz.prog n = some cs := by
 unfold World.var? at h ⊢
 rw [hg] at h ⊢
 simp only [Option.bind_some] at h ⊢
 have hb : w'.heap[g]? = w.heap[g]? := c.block g (by
  cases he : w.heap[g]? with
  | none => rw [he] at h; cases h
  | some o => exact (Array.getElem?_eq_some_iff.1 he).1) hG
 rw [hb]
 exact h
theorem glob_of {n : String} (h : (Tryz.prog.globalNamed n).isSome = true) : Tryz.prog.globalNamed n = some (gOf n) := by
 unfold gOf
 cases hg : Tryz.prog.globalNamed n with
 | none => rw [hg] at h; cases h
 | some g => rfl
theorem glob1 : Tryz.prog.globalNamed "internal/strconv.uint64pow10" = some (gOf "internal/strconv.uint64pow10") := glob_of (by kernel_rfl)
theorem glob2 : Tryz.prog.globalNamed "strconv.ErrSyntax" = some (gOf "strconv.ErrSyntax") := glob_of (by kernel_rfl)
theorem glob3 : Tryz.prog.globalNamed "strconv.ErrRange" = some (gOf "strconv.ErrRange") := glob_of (by kernel_rfl)
theorem var_lt {w : World} {n : String} {cs : Array Value} {g : Nat} (hg : Tryz.prog.globalNamed n = some g) (h : w.var? Tryz.prog n = some cs) : g < w.heap.size := by
 unfold World.var? at h
 rw [hg] at h
 simp only [Option.bind_some] at h
 cases he : w.heap[g]? with
 | none => rw [he] at h; cases h
 | some o => exact (Array.getElem?_eq_some_iff.1 he).1
theorem Env.base {w : World} (h : Env w) : NG ≤ w.heap.size := by
 obtain ⟨h1, ⟨t2, p2, h2⟩, ⟨t3, p3, h3⟩⟩ := h
 have l1 := var_lt glob1 h1
 have l2 := var_lt glob2 h2
 have l3 := var_lt glob3 h3
 unfold NG
 omega
theorem Env.chg {w w' : World} {G : List Nat} (h : Env w) (c : Chg G w w') (hG : ∀ g ∈ G, NG ≤ g) : Env w' := by
 have e1 := glob1
 have e2 := glob2
 have e3 := glob3
 have l1 : gOf "internal/strconv.uint64pow10" < NG := by unfold NG; omega
 have l2 : gOf "strconv.ErrSyntax" < NG := by unfold NG; omega
 have l3 : gOf "strconv.ErrRange" < NG := by unfold NG; omega
 obtain ⟨h1, ⟨t2, p2, h2⟩, ⟨t3, p3, h3⟩⟩ := h
 exact ⟨var_chg e1 h1 c (fun hm => by have := hG _ hm; omega), ⟨t2, p2, var_chg e2 h2 c (fun hm => by have := hG _ hm; omega)⟩, ⟨t3, p3, var_chg e3 h3 c (fun hm => by have := hG _ hm; omega)⟩⟩
theorem Env.below {w w' : World} (h : Env w) (hb : Below w.heap.size w w') : Env w' := h.chg (Chg.of_below hb []) (fun g hg => by cases hg)
theorem name_any (k : ByteArray) (hk : k.size ≤ 1000) (n : Int) (hn : -9223372036854775808 ≤ n ∧ n ≤ 9223372036854775807) (w : World) (h : Env w) :
  Calls Tryz.prog 67 #[.string k, .int .i64 n] w fun e w' => e = .returned (.string (str (Mn.name k.data.toList n))) ∧ Below w.heap.size w w' := by
 by_cases hf : Mn.fits n = true
 ·have h1 : 1 ≤ n ∧ n ≤ 1073741824 := by simp [Mn.fits] at hf; omega
  obtain ⟨h1, h2⟩ := h1
  have e0 : (n < 1) = False := by simp; omega
  have e1 : ((1073741824 : Int) < n) = False := by simp; omega
  by_cases hkd : Mn.isKind k.data.toList = true
  ·have hnm : Mn.name k.data.toList n = k.data.toList ++ [46] ++ Lib.itoa n := by rw [Mn.name, if_pos (by simp [hf, hkd])]
   have hres : (str (Mn.name k.data.toList n)) = k ++ ⟨#[46]⟩ ++ ⟨(Lib.itoa n).toArray⟩ := by
    rw [hnm]
    apply ByteArray.ext
    simp [str]
   rw [hres]
   have hit := Any.strconv_Itoa Tryz.laysM171 n hn.1 hn.2 w h.tab
   have hlen := Lib.itoa_length_le n hn.1 hn.2
   clear hnm hres h hf
   have hk3 : k = str Mn.kLog ∨ k = str Mn.kTab ∨ k = str Mn.kMan := by
    simp only [Mn.isKind, Bool.or_eq_true, beq_iff_eq] at hkd
    rw [← str_list k]
    rcases hkd with h | h | h <;> rw [h] <;> simp
   clear hkd
   rcases hk3 with rfl | rfl | rfl
   all_goals
    unfold str
    first | unfold Mn.kLog | unfold Mn.kTab | unfold Mn.kMan
    go_enter Tryz.func67, Tryz.ntmps67
    go_wp2_with fail
    refine hit.mono ?_
    rintro e w1 ⟨rfl, q, os, rfl⟩
    go_wp2
    go_ret
    exact ⟨rfl, Lib.below_grow _ _ (Nat.le_refl _) _ _⟩
  ·have hnm : Mn.name k.data.toList n = [] := by rw [Mn.name, if_neg (by simp [hkd])]
   have hes : str [] = ⟨#[]⟩ := rfl
   rw [hnm, hes]
   have hb : ∀ l : List UInt8, k.data.toList ≠ l → (k.toList == l) = false := fun l h => by
    rw [ByteArray.toList_eq]
    simpa using h
   have hd : k.data.toList ≠ Mn.kLog ∧ k.data.toList ≠ Mn.kTab ∧ k.data.toList ≠ Mn.kMan := by
    simpa [Mn.isKind] using hkd
   obtain ⟨d1, d2, d3⟩ := hd
   have b1 := hb _ d1
   have b2 := hb _ d2
   have b3 := hb _ d3
   unfold Mn.kLog at b1
   unfold Mn.kTab at b2
   unfold Mn.kMan at b3
   clear hb hnm hes d1 d2 d3 hkd hf h
   go_enter Tryz.func67, Tryz.ntmps67
   go_wp2
   go_ret
   exact ⟨rfl, Below.refl _ _⟩
 ·have he : Mn.name k.data.toList n = [] := by rw [Mn.name, if_neg (by simp [hf])]
  rw [he]
  have hes : str [] = ⟨#[]⟩ := rfl
  rw [hes]
  have h1 : n < 1 ∨ 1073741824 < n := by simp [Mn.fits] at hf; omega
  clear he hf
  rcases h1 with h1 | h1
  ·go_enter Tryz.func67, Tryz.ntmps67
   go_wp2
   go_ret
   exact ⟨rfl, Below.refl _ _⟩
  ·have h2 : (n < 1) = False := by simp; omega
   go_enter Tryz.func67, Tryz.ntmps67
   go_wp2
   go_ret
   exact ⟨rfl, Below.refl _ _⟩
theorem atoi_any (s : ByteArray) (hs : s.size ≤ 1000000) (w : World) (h : Env w) :
  Calls Tryz.prog 228 #[.string s] w fun e w' => ∃ (v : Int) (ev : Value), e = .returned (.tuple #[.int .i64 v, ev]) ∧ ((Mn.okOf (Lib.atoiAll s.data.toList) = some v ∧ ev = .nilIface ∧ -9223372036854775808 ≤ v ∧ v ≤ 9223372036854775807) ∨ (Mn.okOf (Lib.atoiAll s.data.toList) = none ∧ ∃ t p, ev = .iface t p)) ∧ Below w.heap.size w w' := by
 cases ha : Lib.atoiAll s.data.toList with
 | ok v =>
  refine (Any.strconv_Atoi_ok Tryz.laysC172 s (by omega) v ha w).mono ?_
  rintro e w1 ⟨rfl, h1⟩
  refine ⟨_, _, rfl, .inl ⟨rfl, rfl, Lib.atoiAll_bounds ha⟩, ?_⟩
  rcases h1 with rfl | ⟨t, rfl⟩
  ·exact Below.refl _ _
  ·exact Joins.below_bytesWorld _ _ _ _ (Nat.le_refl _)
 | range =>
  obtain ⟨tp, p, hv⟩ := h.rng
  refine (Any.strconv_Atoi_range_var Tryz.laysC172 s (by omega) ha tp p w hv).mono ?_
  rintro e w1 ⟨N, rfl, _, _, hb⟩
  exact ⟨_, _, rfl, .inr ⟨rfl, _, _, rfl⟩, hb⟩
 | _ =>
  obtain ⟨tp, p, hv⟩ := h.syn
  refine (Any.strconv_Atoi_syntax_var Tryz.laysC172 s (by omega) ha tp p w hv).mono ?_
  rintro e w1 ⟨N, rfl, _, _, hb⟩
  exact ⟨_, _, rfl, .inr ⟨rfl, _, _, rfl⟩, hb⟩
def numV (o : Option Int) : Value := match o with
 | some v => .tuple #[.int .i64 v, .bool true]
 | none => .tuple #[.int .i64 0, .bool false]
theorem number_any (s k : ByteArray) (hs : s.size ≤ 100000) (hk : k.size ≤ 1000) (w : World) (h : Env w) :
  Calls Tryz.prog 187 #[.string s, .string k] w fun e w' => e = .returned (numV (Mn.number s.data.toList k.data.toList)) ∧ Below w.heap.size w w' := by
 have hcut := fun p => Any.strings_CutPrefix Tryz.lays103 s p w
 have hat := fun u hu w1 hw1 => atoi_any u hu w1 hw1
 have hpre : (k ++ ⟨#[46]⟩).data.toList = k.data.toList ++ [46] := by simp
 have hcut := hcut (k ++ ⟨#[46]⟩)
 rw [hpre] at hcut
 cases hp : Lib.hasPrefix s.data.toList (k.data.toList ++ [46]) with
 | false =>
  have hn : Mn.number s.data.toList k.data.toList = none := by rw [Mn.number, if_neg (by simp [hp])]
  rw [hn, numV]
  have htr : Lib.trimPrefix s.data.toList (k.data.toList ++ [46]) = s.data.toList := by rw [Lib.trimPrefix, if_neg (by simp [hp])]
  rw [hp, htr] at hcut
  have hss : (⟨s.data.toList.toArray⟩ : ByteArray) = s := by simp
  rw [hss] at hcut
  have hat := hat s (by omega) w h
  clear hp hn htr hpre hss
  go_enter Tryz.func187, Tryz.ntmps187
  go_wp2_with fail
  refine hcut.mono ?_
  rintro e w1 ⟨rfl, rfl⟩
  go_wp2_with fail
  refine hat.mono ?_
  rintro e w1 ⟨v, ev, rfl, hev, hb⟩
  go_wp2
  go_ret2
  exact ⟨rfl, hb⟩
 | true =>
  have htr : Lib.trimPrefix s.data.toList (k.data.toList ++ [46]) = s.data.toList.drop (k.data.toList.length + 1) := by rw [Lib.trimPrefix, if_pos hp]; simp
  rw [hp, htr] at hcut
  obtain ⟨T, hT⟩ : ∃ T : ByteArray, T = ⟨(s.data.toList.drop (k.data.toList.length + 1)).toArray⟩ := ⟨_, rfl⟩
  have hTl : T.data.toList = s.data.toList.drop (k.data.toList.length + 1) := by rw [hT]
  have hTs : T.size ≤ 1000000 := by
   have : T.size = T.data.toList.length := by simp
   rw [this, hTl, List.length_drop]
   have : s.data.toList.length = s.size := by simp
   omega
  rw [← hT] at hcut
  have hat := hat T hTs w h
  rw [hTl] at hat
  have hnum : Mn.number s.data.toList k.data.toList = match Mn.okOf (Lib.atoiAll (s.data.toList.drop (k.data.toList.length + 1))) with
   | some v => if Mn.name k.data.toList v = s.data.toList then some v else none
   | none => none := by rw [Mn.number, if_pos hp]; first | done | rfl
  cases hok : Mn.okOf (Lib.atoiAll (s.data.toList.drop (k.data.toList.length + 1))) with
  | none =>
   rw [hok] at hnum hat
   simp only at hnum
   rw [hnum, numV]
   have HAT := Lib.hid hat
   clear hat hp htr hpre hT hTl hTs hnum hok
   go_enter Tryz.func187, Tryz.ntmps187
   go_wp2_with fail
   refine hcut.mono ?_
   rintro e w1 ⟨rfl, rfl⟩
   go_wp2_with fail
   refine HAT.out.mono ?_
   rintro e w1 ⟨v, ev, rfl, hev, hb⟩
   rcases hev with ⟨h1, _⟩ | ⟨_, t, p, rfl⟩
   ·cases h1
   ·go_wp2
    go_ret2
    exact ⟨rfl, hb⟩
  | some v =>
   rw [hok] at hnum hat
   simp only at hnum
   have hw1 : ∀ w1, Below w.heap.size w w1 → Env w1 := fun w1 hb => h.below hb
   have hnm := fun (hv : -9223372036854775808 ≤ v ∧ v ≤ 9223372036854775807) w1 hb => name_any k hk v hv w1 (hw1 w1 hb)
   by_cases heq : Mn.name k.data.toList v = s.data.toList
   ·rw [if_pos heq] at hnum
    rw [hnum, numV]
    rw [heq, str_list] at hnm
    have HAT := Lib.hid hat
    have HNM := Lib.hid hnm
    clear hat hp htr hpre hT hTl hTs hnum hok hnm heq hw1
    go_enter Tryz.func187, Tryz.ntmps187
    go_wp2_with fail
    refine hcut.mono ?_
    rintro e w0 ⟨rfl, hw0⟩
    obtain rfl := hw0.symm
    go_wp2_with fail
    refine HAT.out.mono ?_
    rintro e w1 ⟨v', ev, rfl, hev, hb⟩
    rcases hev with ⟨h1, rfl, hv⟩ | ⟨h1, _⟩
    ·injection h1 with h1
     subst h1
     go_wp2_with fail
     refine (HNM.out hv w1 hb).mono ?_
     rintro e w2 ⟨rfl, hb2⟩
     have hb3 : Below w.heap.size w w2 := hb.trans (hb2.mono hb.size)
     go_wp2
     go_ret2
     exact ⟨rfl, hb3⟩
    ·cases h1
   ·rw [if_neg heq] at hnum
    rw [hnum, numV]
    have hne : ((str (Mn.name k.data.toList v)).toList == s.toList) = false := by
     rw [ByteArray.toList_eq, ByteArray.toList_eq, list_str]
     simpa using heq
    generalize str (Mn.name k.data.toList v) = nm at *
    have HAT := Lib.hid hat
    have HNM := Lib.hid hnm
    clear hat hp htr hpre hT hTl hTs hnum hok hnm heq hw1
    go_enter Tryz.func187, Tryz.ntmps187
    go_wp2_with fail
    refine hcut.mono ?_
    rintro e w0 ⟨rfl, hw0⟩
    obtain rfl := hw0.symm
    go_wp2_with fail
    refine HAT.out.mono ?_
    rintro e w1 ⟨v', ev, rfl, hev, hb⟩
    rcases hev with ⟨h1, rfl, hv⟩ | ⟨h1, _⟩
    ·injection h1 with h1
     subst h1
     go_wp2_with fail
     refine (HNM.out hv w1 hb).mono ?_
     rintro e w2 ⟨rfl, hb2⟩
     have hb3 : Below w.heap.size w w2 := hb.trans (hb2.mono hb.size)
     go_wp2
     go_ret2
     exact ⟨rfl, hb3⟩
    ·cases h1
end
section
open Go Go.Shelf Go.RowKit
theorem star_es : "*" ++ "errors.errorString" = "*errors.errorString" := by decide
theorem row_es (u : TypeId) (h : Tryz.prog.typeName? 3 u = some "*errors.errorString") : u = 398 :=
 typeName_ptr_named (nm := "errors.errorString") (by rw [star_es]; kernel_rfl) (by kernel_rfl) (by decide) u (by rw [star_es]; exact h)
theorem env_of {a b : String × DataW Unit} (W : World) (h : laidMet Tryz.prog [a, b, ("internal/strconv.uint64pow10", Rows.laid_internal_strconv_uint64pow10), ("strconv.ErrRange", Rows.laid_strconv_ErrRange), ("strconv.ErrSyntax", Rows.laid_strconv_ErrSyntax)] W) : Env W := by
 have h2 := h.tail.tail
 have ht : Lib.TabIs Tryz.prog W "internal/strconv.uint64pow10" .u64 Lib.pow10Tab :=
  Lib.tabIs_of_head (g := gOf "internal/strconv.uint64pow10") (t := 370) (e := 25) (n := 20) glob1 (by kernel_rfl) Tryz.underlying370 Tryz.underlying25 (by kernel_rfl) (by kernel_rfl) h2
 obtain ⟨a1, s1, hv1, _⟩ := laid_sentinel h2.tail (g := gOf "strconv.ErrRange") glob3 (by kernel_rfl) Tryz.underlying301 row_es Tryz.underlying398 Tryz.underlying400 rfl rfl Tryz.underlying9 (by kernel_rfl) (by kernel_rfl)
 obtain ⟨a2, s2, hv2, _⟩ := laid_sentinel h2.tail.tail (g := gOf "strconv.ErrSyntax") glob2 (by kernel_rfl) Tryz.underlying301 row_es Tryz.underlying398 Tryz.underlying400 rfl rfl Tryz.underlying9 (by kernel_rfl) (by kernel_rfl)
 exact ⟨ht, ⟨_, _, hv2⟩, ⟨_, _, hv1⟩⟩
end
section
namespace Pn
def putF : Nat → Nat → List UInt8
 | 0, n => [UInt8.ofNat n]
 | k + 1, n => if n < 128 then [UInt8.ofNat n] else UInt8.ofNat (n % 128 + 128) :: putF k (n / 128)
def put (n : Nat) : List UInt8 := putF 9 n
def takeF : Nat → Nat → List UInt8 → Nat × Nat × Nat
 | _, _, [] => (0, 0, 4)
 | i, acc, c :: r => if (i = 9 ∧ 1 < c.toNat) ∨ (0 < i ∧ c.toNat = 0) then (0, 0, 3) else if c.toNat < 128 then (acc + c.toNat * 2 ^ (7 * i), i + 1, 0) else takeF (i + 1) (acc + (c.toNat - 128) * 2 ^ (7 * i)) r
def take (l : List UInt8) : Nat × Nat × Nat := takeF 0 0 l
def unlistF : Nat → Nat → List UInt8 → List Nat → List Nat × Nat × Nat
 | 0, at_, _, out => (out, at_, 0)
 | k + 1, at_, l, out => match take (l.drop at_) with
  | (x, size, 0) => unlistF k (at_ + size) l (out ++ [x])
  | (_, _, e) => ([], 0, e)
def unlist (l : List UInt8) (most : Nat) : List Nat × Nat × Nat := match take l with
  | (n, at_, 0) => if most < n then ([], 0, 2) else unlistF n at_ l []
  | (_, _, e) => ([], 0, e)
def list (l : List Nat) : List UInt8 := put l.length ++ l.flatMap put
theorem putF_len : ∀ k n, 1 ≤ (putF k n).length ∧ (putF k n).length ≤ k + 1
 | 0, _ => by simp [putF]
 | k + 1, n => by
  have := putF_len k (n / 128)
  unfold putF
  split <;> simp <;> omega
theorem put_len (n : Nat) : 1 ≤ (put n).length ∧ (put n).length ≤ 10 := putF_len 9 n
theorem pow7 (i : Nat) : 2 ^ (7 * (i + 1)) = 128 * 2 ^ (7 * i) := by
 rw [show 7 * (i + 1) = 7 * i + 7 from by omega, Nat.pow_add]
 omega
end Pn
end
section
open Go.RowKit
theorem or_top (x : Nat) : bits .or .u8 ((x : Int) % 256) 128 = ((UInt8.ofNat (x % 128 + 128)).toNat : Int) := by
 have key : ∀ y : Fin 256, bits .or .u8 ((y.val : Nat) : Int) 128 = ((y.val % 128 + 128 : Nat) : Int) := by decide +kernel
 have h := key ⟨x % 256, Nat.mod_lt _ (by decide)⟩
 simp only at h
 rw [show ((x : Int) % 256) = ((x % 256 : Nat) : Int) from by omega, h, UInt8.toNat_ofNat']
 omega
theorem byte_of_nat (x : Nat) : (x : Int) % 256 = ((UInt8.ofNat x).toNat : Int) := by
 rw [UInt8.toNat_ofNat']
 omega
theorem box_row (w : World) (e : TypeId) (c : UInt8) : Row (w.heap.size + 1) (w.alloc (.cells #[.int .u8 (c.toNat : Int)] e)) (some ⟨w.heap.size, 0, none⟩) 1 1 (bts [c]) := by
 have := Row.new w #[.int .u8 (c.toNat : Int)] e (n := 1) (size := 1) rfl
 simpa [bts] using this
theorem put_any (A : Option Addr) (N c : Nat) (l : List UInt8) (n : Nat) (hn : n < 18446744073709551616) (w : World) (hN : N ≤ 1073741824) (hr : Row w.heap.size w A N 1 (bts l)) :
  Calls Tryz.prog 200 #[.slice A N c, .int .u64 (n : Int)] w fun e w' => ∃ A' c', e = .returned (.slice A' (N + (Pn.put n).length) c') ∧
   w'.ownsRow w.heap.size 5 1 (.slice A' (N + (Pn.put n).length) c') (N + (Pn.put n).length) (bts (l ++ Pn.put n)) ∧ N + (Pn.put n).length ≤ c' ∧ c' ≤ maxLen ∧ Below w.heap.size w w' := by
 obtain ⟨i0, hi0, hz0, hz1, hz2⟩ := info_parts info_u8
 go_enter Tryz.func200, Tryz.ntmps200
 go_wp2_with (at_builtin; refine stop_in ?_)
 refine stop_out (wpList_app0 rfl (.const (.slice none 0 0)) (.tmp 6) _ rfl w.heap.size 5 i0 _ 1 1 Tryz.underlying121 hi0 hz0 hz1 hz2 rfl (by omega) w (Below.refl _ _) (Nat.le_refl _) rfl w.heap.size A N c (bts l) rfl hr (bts_one l) (by unfold maxLen; omega) (by omega) ?_)
 intro A2 c2 w2 hown2 hb2 hg2 hc2 hm2
 go_wp2
 go_loopw [5, 1] (fun o m wr => ∃ (k n' : Nat) (pre : List UInt8) (A' : Option Addr) (c' : Nat), o = .slice A' (N + k) c' ∧ m = .int .u64 (n' : Int) ∧ wr.ownsRow w.heap.size 5 1 (.slice A' (N + k) c') (N + k) (bts (l ++ pre)) ∧ N + k ≤ c' ∧ c' ≤ maxLen ∧
  pre ++ Pn.putF (9 - k) n' = Pn.put n ∧ k ≤ 9 ∧ n' < 2 ^ (64 - 7 * k) ∧ Below w.heap.size w wr) (fun _ m _ => (intOf m).toNat)
 case atStart => exact ⟨0, n, [], A2, c2, rfl, rfl, by simpa using hown2, hc2, hm2, rfl, by omega, by simpa using hn, hb2⟩
 case round =>
  obtain ⟨k, n', pre, A', c', rfl, rfl, hown, hc', hm', hp, hk, hl, hb⟩ := hrel
  have hpl : pre.length = k := by
   have h1 := hown.1
   rw [bts_length, List.length_append] at h1
   have h2 := hr.btlen
   omega
  have HP := Lib.hid hp
  have HL := Lib.hid hl
  have HPL := Lib.hid hpl
  have h64 : n' < 18446744073709551616 := by
   refine Nat.lt_of_lt_of_le hl ?_
   exact Nat.pow_le_pow_right (n := 2) (by decide) (show 64 - 7 * k ≤ 64 by omega)
  clear hp hl hpl
  by_cases h128 : 128 ≤ n'
  ·have hlt : ((n' : Int) < 128) = False := by simp; omega
   have hge : ((128 : Int) ≤ (n' : Int)) := by omega
   go_wp2_with (at_builtin; refine stop_in ?_)
   have hbox : Row (wr.heap.size + 1) (wr.alloc (.cells #[.int .u8 ((UInt8.ofNat (n' % 128 + 128)).toNat : Int)] 5)) (some ⟨wr.heap.size, 0, none⟩) 1 1 (bts [UInt8.ofNat (n' % 128 + 128)]) := box_row _ _ _
   rw [← or_top] at hbox
   refine stop_out (wpList_app rfl (.tmp 12) (.tmp 16) _ rfl w.heap.size 5 i0 _ 1 1 Tryz.underlying121 hi0 hz0 hz1 hz2 rfl (by omega) w (hb.alloc hb.size _) (Nat.le_trans hb.size (by simp)) _ (N + k) (bts (l ++ pre)) rfl (hown.alloc _) (wr.heap.size + 1) _ 1 1 (bts [UInt8.ofNat (n' % 128 + 128)]) rfl hbox (bts_one _) (N + (k + 1)) (bts (l ++ (pre ++ [UInt8.ofNat (n' % 128 + 128)]))) (by omega) (by simp [bts]) (by unfold maxLen; omega) (by omega) ?_)
   intro A3 c3 w3 hown3 hb3 _ hc3 hm3
   go_wp2
   go_roundw
   case rel =>
    have hp : pre ++ Pn.putF (9 - k) n' = Pn.put n := HP
    have hl : n' < 2 ^ (64 - 7 * k) := HL
    have hk9 : k ≠ 9 := by
     rintro rfl
     omega
    refine ⟨k + 1, n' / 128, pre ++ [UInt8.ofNat (n' % 128 + 128)], A3, c3, rfl, ?_, hown3, hc3, hm3, ?_, by omega, ?_, hb3⟩
    ·go_num
    ·rw [← hp, show 9 - k = (9 - (k + 1)) + 1 from by omega, Pn.putF, if_neg (by omega)]
     simp
    ·rw [Nat.div_lt_iff_lt_mul (by decide), show (128 : Nat) = 2 ^ 7 from rfl, ← Nat.pow_add, show 64 - 7 * (k + 1) + 7 = 64 - 7 * k from by omega]
     exact hl
   case measure => simp [intOf]; omega
  ·have hlt : ((128 : Int) ≤ (n' : Int)) = False := by simp; omega
   go_wp2_with (at_builtin; refine stop_in ?_)
   have hbox : Row (wr.heap.size + 1) (wr.alloc (.cells #[.int .u8 ((UInt8.ofNat n').toNat : Int)] 5)) (some ⟨wr.heap.size, 0, none⟩) 1 1 (bts [UInt8.ofNat n']) := box_row _ _ _
   rw [show ((UInt8.ofNat n').toNat : Int) = (n' : Int) from by rw [← byte_of_nat]; omega] at hbox
   have hfin : pre ++ [UInt8.ofNat n'] = Pn.put n := by
    have hp : pre ++ Pn.putF (9 - k) n' = Pn.put n := HP
    rw [← hp]
    cases h9 : 9 - k with
    | zero => rfl
    | succ j => rw [Pn.putF, if_pos (by omega)]
   have hlen : k + 1 = (Pn.put n).length := by
    have hpl : pre.length = k := HPL
    rw [← hfin]
    simp [hpl]
   have HF := Lib.hid hfin
   have HLN := Lib.hid hlen
   clear hfin hlen
   refine stop_out (wpList_app rfl (.tmp 18) (.tmp 21) _ rfl w.heap.size 5 i0 _ 1 1 Tryz.underlying121 hi0 hz0 hz1 hz2 rfl (by omega) w (hb.alloc hb.size _) (Nat.le_trans hb.size (by simp)) _ (N + k) (bts (l ++ pre)) rfl (hown.alloc _) (wr.heap.size + 1) _ 1 1 (bts [UInt8.ofNat n']) rfl hbox (bts_one _) (N + (Pn.put n).length) (bts (l ++ Pn.put n)) (by have h : k + 1 = (Pn.put n).length := HLN; omega) (by have h : pre ++ [UInt8.ofNat n'] = Pn.put n := HF; rw [← h]; simp [bts]) (by have := (Pn.put_len n).2; unfold maxLen; omega) (by have := (Pn.put_len n).2; omega) ?_)
   intro A3 c3 w3 hown3 hb3 _ hc3 hm3
   go_wp2
   go_ret
   exact ⟨A3, c3, rfl, hown3, hc3, hm3, hb3⟩
end
section
open Go.RowKit
theorem and_low (x : UInt8) : bits .and .u8 (x.toNat : Int) 127 = ((x.toNat % 128 : Nat) : Int) := by
 have key : ∀ y : Fin 256, bits .and .u8 ((y.val : Nat) : Int) 127 = ((y.val % 128 : Nat) : Int) := by decide +kernel
 exact key ⟨x.toNat, x.toNat_lt⟩
theorem wrap64_nat (y : Nat) (h : y < 18446744073709551616) : IntKind.u64.wrap (y : Int) = (y : Int) := by
 rw [IntKind.wrap_u64]
 omega
theorem or_add (acc m k : Nat) (ha : acc < 2 ^ k) (hm : m * 2 ^ k < 18446744073709551616) (ha' : acc < 18446744073709551616) : bits .or .u64 (acc : Int) ((m * 2 ^ k : Nat) : Int) = ((acc + m * 2 ^ k : Nat) : Int) := by
 have h1 : ((BitVec.ofNat 64 acc).toNat : Int) = (acc : Int) := by rw [BitVec.toNat_ofNat, Nat.mod_eq_of_lt ha']
 have h2 : ((BitVec.ofNat 64 (m * 2 ^ k)).toNat : Int) = ((m * 2 ^ k : Nat) : Int) := by rw [BitVec.toNat_ofNat, Nat.mod_eq_of_lt hm]
 rw [← h1, ← h2, bits64_or, BitVec.toNat_or, BitVec.toNat_ofNat, BitVec.toNat_ofNat, Nat.mod_eq_of_lt ha', Nat.mod_eq_of_lt hm]
 congr 1
 rw [Nat.or_comm, Nat.mul_comm, ← Nat.two_pow_add_eq_or_of_lt ha]
 omega
theorem or_mix (acc : Nat) (x : UInt8) (k : Nat) (hk : k ≤ 9) (h9 : k = 9 → x.toNat ≤ 1) (ha : acc < 2 ^ (7 * k)) :
  bits .or .u64 (acc : Int) (IntKind.u64.wrap (IntKind.u64.wrap (bits .and .u8 (x.toNat : Int) 127) * 2 ^ (7 * k))) = ((acc + x.toNat % 128 * 2 ^ (7 * k) : Nat) : Int) ∧ acc + x.toNat % 128 * 2 ^ (7 * k) < 2 ^ (7 * (k + 1)) := by
 have hx : x.toNat % 128 < 128 := Nat.mod_lt _ (by decide)
 have hp : 2 ^ (7 * k) ≤ 2 ^ 63 := Nat.pow_le_pow_right (by decide) (by omega)
 have hm : x.toNat % 128 * 2 ^ (7 * k) < 18446744073709551616 := by
  by_cases e : k = 9
  ·subst e
   have := h9 rfl
   omega
  ·have h56 : 2 ^ (7 * k) ≤ 2 ^ 56 := Nat.pow_le_pow_right (by decide) (by omega)
   have : x.toNat % 128 * 2 ^ (7 * k) ≤ 127 * 2 ^ 56 := Nat.mul_le_mul (by omega) h56
   omega
 constructor
 ·rw [and_low, wrap64_nat _ (by omega)]
  have e : ((x.toNat % 128 : Nat) : Int) * 2 ^ (7 * k) = ((x.toNat % 128 * 2 ^ (7 * k) : Nat) : Int) := by push_cast; rfl
  rw [e, wrap64_nat _ hm, or_add _ _ _ ha hm (by omega)]
 ·rw [Pn.pow7]
  have : x.toNat % 128 * 2 ^ (7 * k) ≤ 127 * 2 ^ (7 * k) := Nat.mul_le_mul_right _ (by omega)
  omega
theorem take_any (A : Option Addr) (N c : Nat) (l : List UInt8) (w : World) (hN : N ≤ 1073741824) (hr : Row w.heap.size w A N 1 (bts l)) :
  Calls Tryz.prog 131 #[.slice A N c] w fun e w' => e = .returned (.tuple #[.int .u64 ((Pn.take l).1 : Int), .int .i64 ((Pn.take l).2.1 : Int), .int .i64 ((Pn.take l).2.2 : Int)]) ∧ w = w' := by
 have hln := hr.btlen
 go_enter Tryz.func131, Tryz.ntmps131
 go_wp2
 go_loop [2, 9] (fun x i => ∃ (k acc : Nat), k ≤ N ∧ k ≤ 9 ∧ acc < 2 ^ (7 * k) ∧ x = .int .u64 (acc : Int) ∧ i = .int .i64 (k : Int) ∧ Hid (Pn.take l = Pn.takeF k acc (l.drop k))) (fun _ i => N - (intOf i).toNat)
 case atStart => exact ⟨0, 0, Nat.zero_le _, Nat.zero_le _, by decide, rfl, rfl, Lib.hid (by rfl)⟩
 case round =>
  obtain ⟨k, acc, hk, hk9, hacc, rfl, rfl, hh⟩ := hrel
  by_cases hlt : k < N
  ·obtain ⟨a, hl, rfl, _, hc⟩ := hr.bt hlt
   have hstep : Pn.take l = Pn.takeF k acc (l[k] :: l.drop (k + 1)) := by
    have h : Pn.take l = Pn.takeF k acc (l.drop k) := hh
    rw [h, List.drop_eq_getElem_cons hl]
   generalize l[k] = x at *
   have HS := Lib.hid hstep
   have HA := Lib.hid hacc
   clear hh hstep hacc
   have hx : x.toNat < 256 := x.toNat_lt
   by_cases b1 : (k = 9 ∧ 1 < x.toNat) ∨ (0 < k ∧ x.toNat = 0)
   ·have hr3 : Pn.take l = (0, 0, 3) := by
     have h : Pn.take l = Pn.takeF k acc (x :: l.drop (k + 1)) := HS
     rw [h, Pn.takeF, if_pos b1]
    have HR := Lib.hid hr3
    clear hr3
    have fin : Ending.returned (Value.tuple #[Value.int IntKind.u64 0, Value.int IntKind.i64 0, Value.int IntKind.i64 3]) = .returned (.tuple #[.int .u64 ((Pn.take l).1 : Int), .int .i64 ((Pn.take l).2.1 : Int), .int .i64 ((Pn.take l).2.2 : Int)]) := by
     have h : Pn.take l = (0, 0, 3) := HR
     rw [h]
     rfl
    have FIN := Lib.hid fin
    clear fin
    rcases b1 with ⟨b1, b2⟩ | ⟨b1, b2⟩
    ·subst b1
     have hc9 : w.cell? { block := a.block, off := a.off + 9 } = some (.int .u8 (x.toNat : Int)) := by simpa [Addr.add] using hc
     have c2 : ((1 : Int) < (x.toNat : Int)) := by omega
     go_wp2
     exact bodyPost_ret (v := .tuple #[.int .u64 0, .int .i64 0, .int .i64 3]) (by simp [results, go_sem]) rfl ⟨FIN, rfl⟩
    ·by_cases b3 : k = 9
     ·subst b3
      have hc9 : w.cell? { block := a.block, off := a.off + 9 } = some (.int .u8 (x.toNat : Int)) := by simpa [Addr.add] using hc
      have c2 : ((1 : Int) < (x.toNat : Int)) = False := by simp; omega
      have c4 : ((x.toNat : Int) == 0) = true := by simp; omega
      go_wp2
      exact bodyPost_ret (v := .tuple #[.int .u64 0, .int .i64 0, .int .i64 3]) (by simp [results, go_sem]) rfl ⟨FIN, rfl⟩
     ·have c1 : ((k : Int) == 9) = false := by simp; omega
      have c3 : ((0 : Int) < (k : Int)) := by omega
      have c4 : ((x.toNat : Int) == 0) = true := by simp; omega
      go_wp2
      exact bodyPost_ret (v := .tuple #[.int .u64 0, .int .i64 0, .int .i64 3]) (by simp [results, go_sem]) rfl ⟨FIN, rfl⟩
   ·obtain ⟨hm1, hm2⟩ := or_mix acc x k hk9 (fun e => by omega) HA
    generalize hR : acc + x.toNat % 128 * 2 ^ (7 * k) = R at hm1 hm2
    have HM2 := Lib.hid hm2
    have HR := Lib.hid hR
    clear hm2 hR
    by_cases b3 : x.toNat < 128
    ·have c5 : ((x.toNat : Int) < 128) := by omega
     have hr3 : Pn.take l = (R, k + 1, 0) := by
      have hR : acc + x.toNat % 128 * 2 ^ (7 * k) = R := HR
      have h : Pn.take l = Pn.takeF k acc (x :: l.drop (k + 1)) := HS
      rw [h, Pn.takeF, if_neg b1, if_pos b3, ← hR, Nat.mod_eq_of_lt b3]
     have fin : Ending.returned (Value.tuple #[Value.int IntKind.u64 ((R : Nat) : Int), Value.int IntKind.i64 ((k : Int) + 1), Value.int IntKind.i64 0]) = .returned (.tuple #[.int .u64 ((Pn.take l).1 : Int), .int .i64 ((Pn.take l).2.1 : Int), .int .i64 ((Pn.take l).2.2 : Int)]) := by
      rw [hr3]
      rfl
     have FIN := Lib.hid fin
     clear fin hr3
     by_cases d1 : k = 9
     ·subst d1
      have hc9 : w.cell? { block := a.block, off := a.off + 9 } = some (.int .u8 (x.toNat : Int)) := by simpa [Addr.add] using hc
      have hm9 : bits .or .u64 (acc : Int) (IntKind.u64.wrap (IntKind.u64.wrap (bits .and .u8 (x.toNat : Int) 127) * 9223372036854775808)) = (R : Int) := hm1
      have c2 : ((1 : Int) < (x.toNat : Int)) = False := by simp; omega
      have c4 : ((x.toNat : Int) == 0) = false := by simp; omega
      go_wp2
      refine bodyPost_ret (v := .tuple #[.int .u64 ((R : Nat) : Int), .int .i64 10, .int .i64 0]) (by simp [results, go_sem]) rfl ⟨FIN, rfl⟩
     ·have c1 : ((k : Int) == 9) = false := by simp; omega
      by_cases d2 : 0 < k
      ·have c3 : ((0 : Int) < (k : Int)) := by omega
       have c4 : ((x.toNat : Int) == 0) = false := by simp; omega
       go_wp2
       refine bodyPost_ret (v := .tuple #[.int .u64 ((R : Nat) : Int), .int .i64 ((k : Int) + 1), .int .i64 0]) (by simp [results, go_sem]) rfl ⟨FIN, rfl⟩
      ·have c3 : ((0 : Int) < (k : Int)) = False := by simp; omega
       go_wp2
       refine bodyPost_ret (v := .tuple #[.int .u64 ((R : Nat) : Int), .int .i64 ((k : Int) + 1), .int .i64 0]) (by simp [results, go_sem]) rfl ⟨FIN, rfl⟩
    ·have c5 : ((x.toNat : Int) < 128) = False := by simp; omega
     have c4 : ((x.toNat : Int) == 0) = false := by simp; omega
     have d1 : k ≠ 9 := by omega
     have c1 : ((k : Int) == 9) = false := by simp; omega
     have hnx : Pn.take l = Pn.takeF (k + 1) R (l.drop (k + 1)) := by
      have hR : acc + x.toNat % 128 * 2 ^ (7 * k) = R := HR
      have h : Pn.take l = Pn.takeF k acc (x :: l.drop (k + 1)) := HS
      rw [h, Pn.takeF, if_neg b1, if_neg b3, ← hR, show x.toNat % 128 = x.toNat - 128 from by omega]
     have HN := Lib.hid hnx
     clear hnx
     by_cases d2 : 0 < k
     ·have c3 : ((0 : Int) < (k : Int)) := by omega
      go_wp2
      go_round
      case rel => exact ⟨k + 1, R, by omega, by omega, HM2, rfl, by go_num, HN⟩
      case measure => simp [intOf]; omega
     ·have c3 : ((0 : Int) < (k : Int)) = False := by simp; omega
      go_wp2
      go_round
      case rel => exact ⟨k + 1, R, by omega, by omega, HM2, rfl, by go_num, HN⟩
      case measure => simp [intOf]; omega
  ·have hr3 : Pn.take l = (0, 0, 4) := by
    have h : Pn.take l = Pn.takeF k acc (l.drop k) := hh
    rw [h, List.drop_eq_nil_of_le (by omega)]
    rfl
   have fin : Ending.returned (Value.tuple #[Value.int IntKind.u64 0, Value.int IntKind.i64 0, Value.int IntKind.i64 4]) = .returned (.tuple #[.int .u64 ((Pn.take l).1 : Int), .int .i64 ((Pn.take l).2.1 : Int), .int .i64 ((Pn.take l).2.2 : Int)]) := by
    rw [hr3]
    rfl
   have FIN := Lib.hid fin
   clear fin hr3
   go_wp2
   exact bodyPost_ret (v := .tuple #[.int .u64 0, .int .i64 0, .int .i64 4]) (by simp [results, go_sem]) rfl ⟨FIN, rfl⟩
end
section
open Go.RowKit
def u64v (ns : List Nat) : List Value := ns.map fun n : Nat => .int .u64 (n : Int)
theorem u64v_get (ns : List Nat) (k : Nat) : (u64v ns)[k]? = (ns[k]?).map fun n : Nat => .int .u64 (n : Int) := by simp [u64v]
theorem Row.un {B n : Nat} {w : World} {A : Option Addr} {ns : List Nat} (h : Row B w A n 1 (u64v ns)) {k : Nat} (hk : k < n) : ∃ a, ∃ hl : k < ns.length, A = some a ∧ a.block < B ∧ w.cell? (a.add k) = some (.int .u64 ((ns[k] : Nat) : Int)) := by
 obtain ⟨a, v, e, hb, hv, hc⟩ := h.at1 hk
 have hl : k < ns.length := by
  have := h.len
  simp [u64v] at this
  omega
 rw [u64v_get, List.getElem?_eq_getElem hl] at hv
 injection hv with hv
 subst hv
 exact ⟨a, hl, e, hb, hc⟩
theorem Row.unlen {B n : Nat} {w : World} {A : Option Addr} {ns : List Nat} (h : Row B w A n 1 (u64v ns)) : ns.length = n := by
 have := h.len
 simp [u64v] at this
 omega
theorem flat_put_len (ns : List Nat) : (ns.flatMap Pn.put).length ≤ ns.length * 10 := by
 induction ns with
 | nil => simp
 | cons n r ih =>
  have := (Pn.put_len n).2
  simp only [List.flatMap_cons, List.length_append, List.length_cons]
  omega
theorem list_any (A : Option Addr) (N c : Nat) (l : List UInt8) (L : Option Addr) (m d : Nat) (ns : List Nat) (w : World) (hN : N ≤ 1000000) (hm : m ≤ 1000) (hr : Row w.heap.size w A N 1 (bts l)) (hq : Row w.heap.size w L m 1 (u64v ns)) (hns : ∀ n ∈ ns, n < 18446744073709551616) :
  Calls Tryz.prog 244 #[.slice A N c, .slice L m d] w fun e w' => ∃ A' M c', e = .returned (.slice A' M c') ∧
   w'.ownsRow w.heap.size 5 1 (.slice A' M c') M (bts (l ++ Pn.list ns)) ∧ M ≤ c' ∧ c' ≤ maxLen ∧ Below w.heap.size w w' := by
 have hln := hr.btlen
 have hmn := hq.unlen
 have hcv : ∀ w, (convert 3 25 (.int .i64 (m : Int))).run Tryz.prog w = .ok (.int .u64 (m : Int)) w := by
  intro w
  have : (m : Int) % 18446744073709551616 = (m : Int) := by omega
  simp [go_sem, convert, IntKind.wrap_u64, this]
 go_enter Tryz.func244, Tryz.ntmps244
 go_wp2_with fail
 refine (put_any A N c l m (by omega) w (by omega) hr).mono ?_
 rintro e w1 ⟨A1, c1, rfl, ho1, hc1, hm1, hb1⟩
 obtain ⟨M1, hM1⟩ : ∃ M1, M1 = N + (Pn.put m).length := ⟨_, rfl⟩
 have hM1b : M1 ≤ N + 10 := by have := (Pn.put_len m).2; omega
 rw [← hM1] at ho1 hc1 ⊢
 have HM := Lib.hid hM1
 clear hM1
 go_wp2
 go_loopw [5, 15] (fun o i wr => ∃ (k : Nat) (A' : Option Addr) (M c' : Nat), k ≤ m ∧ o = .slice A' M c' ∧ i = .int .i64 (k : Int) ∧ wr.ownsRow w.heap.size 5 1 (.slice A' M c') M (bts (l ++ (Pn.put m ++ (ns.take k).flatMap Pn.put))) ∧ M ≤ c' ∧ c' ≤ maxLen ∧ Below w.heap.size w wr) (fun _ i _ => m - (intOf i).toNat)
 case atStart => exact ⟨0, A1, M1, c1, Nat.zero_le _, rfl, rfl, by simpa using ho1, hc1, hm1, hb1⟩
 case round =>
  obtain ⟨k, A', M, c', hk, rfl, rfl, hown, hc', hm', hb⟩ := hrel
  have hML : M = N + ((Pn.put m).length + ((ns.take k).flatMap Pn.put).length) := by
   have h1 := hown.1
   rw [bts_length] at h1
   simp only [List.length_append] at h1
   omega
  have hMB : M ≤ N + 10 + 10000 := by
   have h1 := flat_put_len (ns.take k)
   have h2 := (Pn.put_len m).2
   have h3 := List.length_take_le k ns
   omega
  have HML := Lib.hid hML
  clear hML
  by_cases hlt : k < m
  ·obtain ⟨a, hl, rfl, hab, hc⟩ := (hq.below hb).un hlt
   have htk : ns.take (k + 1) = ns.take k ++ [ns[k]] := (List.take_append_getElem hl).symm
   have hnk := hns ns[k] (List.getElem_mem hl)
   generalize ns[k] = x at *
   have HT := Lib.hid htk
   clear htk
   go_wp2_with fail
   refine (put_any A' M c' (l ++ (Pn.put m ++ (ns.take k).flatMap Pn.put)) x hnk wr (by omega) (Row.own hown)).mono ?_
   rintro e w2 ⟨A2, c2, rfl, ho2, hc2, hm2, hb2⟩
   go_wp2
   go_roundw
   case rel =>
    refine ⟨k + 1, A2, M + (Pn.put x).length, c2, by omega, rfl, by go_num, ?_, hc2, hm2, later_ hb hb2⟩
    have ht : ns.take (k + 1) = ns.take k ++ [x] := HT
    rw [ht]
    have := own_base ho2 hb.size
    simpa [List.append_assoc] using this
   case measure => simp [intOf]; omega
  ·have hkm : k = m := by omega
   have hfin : l ++ (Pn.put m ++ (ns.take k).flatMap Pn.put) = l ++ Pn.list ns := by
    rw [hkm, List.take_of_length_le (by omega), Pn.list, hmn]
   rw [hfin] at hown
   go_wp2
   go_ret
   exact ⟨A', M, c', rfl, hown, hc', hm', hb⟩
end
section
namespace Fr
def head (k n : Nat) : List UInt8 := [UInt8.ofNat k, UInt8.ofNat (n / 65536), UInt8.ofNat (n / 256), UInt8.ofNat n]
def put (k : Nat) (b : List UInt8) : List UInt8 := Crc.sealed (head k b.length) ++ Crc.sealed b
def u (l : List UInt8) (i : Nat) : Nat := (l.getD i 0).toNat
def size (l : List UInt8) : Nat := u l 1 * 65536 + u l 2 * 256 + u l 3
def take (l : List UInt8) (p : Nat) : Nat × List UInt8 × Nat × Nat :=
 if l.length - p < 8 then (0, [], 0, 4)
 else if Crc.sealed ((l.drop p).take 4) ≠ (l.drop p).take 8 then (0, [], 0, 5)
 else if u (l.drop p) 0 < 1 ∨ 100 < u (l.drop p) 0 ∨ 60000 < size (l.drop p) then (0, [], 0, 3)
 else if l.length - p - 8 < size (l.drop p) + 4 then (0, [], 0, 4)
 else if Crc.sealed ((l.drop (p + 8)).take (size (l.drop p))) ≠ (l.drop (p + 8)).take (size (l.drop p) + 4) then (0, [], 0, 5)
 else (u (l.drop p) 0, (l.drop (p + 8)).take (size (l.drop p)), p + 8 + size (l.drop p) + 4, 0)
def splitF : Nat → List UInt8 → Nat → List Nat → List (List UInt8) → List Nat × List (List UInt8) × Nat × Nat
 | 0, _, e, ks, bs => (ks, bs, e, 0)
 | f + 1, l, e, ks, bs => if e < l.length then
   (if (take l e).2.2.2 = 0 then splitF f l (take l e).2.2.1 (ks ++ [(take l e).1]) (bs ++ [(take l e).2.1]) else (ks, bs, e, (take l e).2.2.2))
  else (ks, bs, e, 0)
def split (l : List UInt8) : List Nat × List (List UInt8) × Nat × Nat := splitF (l.length + 1) l 0 [] []
theorem four_length (x : BitVec 32) : (Crc.four x).length = 4 := rfl
theorem sealed_len (l : List UInt8) : (Crc.sealed l).length = l.length + 4 := by simp [Crc.sealed, four_length]
theorem put_length (k : Nat) (b : List UInt8) : (put k b).length = b.length + 12 := by simp [put, sealed_len, head]; omega
def all (k : Nat) (bs : List (List UInt8)) : List UInt8 := bs.flatMap (put k)
end Fr
end
section
structure Vw where
 log : Int
 files : List (Int × Int)
 floor : Nat
 cert : Nat
 at_ : Nat
 lease : Nat
structure Ed where
 drop : List Int
 add : List (Int × Int)
 log : Int
 floor : Nat
 cert : Nat
 at_ : Nat
 lease : Nat
def isNum (n : Int) : Bool := decide (1 ≤ n) && decide (n ≤ 1073741824)
def isFile (f : Int × Int) : Bool := isNum f.2 && (decide (0 ≤ f.1) && decide (f.1 ≤ 3))
def four4 (a b c d : Nat) : Bool := decide (a ≤ 281474976710656) && decide (b ≤ 281474976710656) && decide (c ≤ 281474976710656) && decide (d ≤ 281474976710656)
def apart : List (Int × Int) → Bool
 | [] => true
 | f :: r => r.all (fun g => !(g.2 == f.2)) && apart r
def Vw.ok (v : Vw) : Bool := isNum v.log && decide (v.files.length ≤ 40) && four4 v.floor v.cert v.at_ v.lease && v.files.all isFile && apart v.files
def Ed.may (e : Ed) : Bool := decide (e.drop.length ≤ 40) && decide (e.add.length ≤ 40) && (decide (0 ≤ e.log) && decide (e.log ≤ 1073741824)) && four4 e.floor e.cert e.at_ e.lease && e.drop.all isNum && e.add.all isFile
def dropAll : List Int → List (Int × Int) → Option (List (Int × Int))
 | [], fs => some fs
 | n :: r, fs => if fs.any (fun f => f.2 == n) then dropAll r (fs.eraseP fun f => f.2 == n) else none
def orElse (a b : Nat) : Nat := if a = 0 then b else a
def Vw.app (v : Vw) (e : Ed) : Option Vw := match dropAll e.drop v.files with
 | none => none
 | some fs => if (Vw.ok { log := if e.log = 0 then v.log else e.log, files := fs ++ e.add, floor := orElse e.floor v.floor, cert := orElse e.cert v.cert, at_ := orElse e.at_ v.at_, lease := orElse e.lease v.lease }) then
   some { log := if e.log = 0 then v.log else e.log, files := fs ++ e.add, floor := orElse e.floor v.floor, cert := orElse e.cert v.cert, at_ := orElse e.at_ v.at_, lease := orElse e.lease v.lease } else none
def Vw.run (v : Vw) : List Ed → Option Vw
 | [] => some v
 | e :: r => match v.app e with
  | none => none
  | some w => w.run r
def Vw.none_ : Vw := ⟨0, [], 0, 0, 0, 0⟩
def Vw.whole (v : Vw) : Ed := ⟨[], v.files, v.log, v.floor, v.cert, v.at_, v.lease⟩
def Ed.bytes (e : Ed) : List UInt8 := Pn.list (e.drop.map Int.toNat) ++ (Pn.put e.add.length ++ (e.add.flatMap (fun f => Pn.put f.1.toNat ++ Pn.put f.2.toNat) ++
 (Pn.put e.log.toNat ++ (Pn.put e.floor ++ (Pn.put e.cert ++ (Pn.put e.at_ ++ Pn.put e.lease))))))
def Ed.rec_ (e : Ed) : List UInt8 := Fr.put 6 e.bytes
def Ed.bare (e : Ed) : Prop := e.drop = [] ∧ e.add = []
theorem flat_len {α : Type} (f : α → List UInt8) (n : Nat) : ∀ l : List α, (∀ x ∈ l, (f x).length ≤ n) → (l.flatMap f).length ≤ l.length * n
 | [], _ => by simp
 | x :: r, h => by
  have h1 := h x (by simp)
  have h2 := flat_len f n r (fun y hy => h y (by simp [hy]))
  simp only [List.flatMap_cons, List.length_append, List.length_cons, Nat.add_mul]
  omega
theorem Ed.bytes_len (e : Ed) (h : e.may = true) : e.bytes.length ≤ 2000 := by
 simp only [Ed.may, Bool.and_eq_true, decide_eq_true_eq] at h
 have h1 := flat_len Pn.put 10 (e.drop.map Int.toNat) (fun x _ => (Pn.put_len x).2)
 have h2 := flat_len (fun f : Int × Int => Pn.put f.1.toNat ++ Pn.put f.2.toNat) 20 e.add (fun f _ => by
  have := (Pn.put_len f.1.toNat).2
  have := (Pn.put_len f.2.toNat).2
  simp only [List.length_append]
  omega)
 have a1 := (Pn.put_len (e.drop.map Int.toNat).length).2
 have a2 := (Pn.put_len e.add.length).2
 have a3 := (Pn.put_len e.log.toNat).2
 have a4 := (Pn.put_len e.floor).2
 have a5 := (Pn.put_len e.cert).2
 have a6 := (Pn.put_len e.at_).2
 have a7 := (Pn.put_len e.lease).2
 have e1 : (e.drop.map Int.toNat).length = e.drop.length := by simp
 simp only [Ed.bytes, Pn.list, List.length_append]
 rw [e1] at h1
 omega
end
end Go.Proofs.YtdkjoigpahafmaaGreatDoor
