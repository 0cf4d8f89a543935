/- Texts DiskI, ManB, Once, OnceB, ManC, LogA, IConcat, ChunkA in one. No conditions. -/
import Derived.Test.YtdkjoigpahafmaaGreatDoorBunAA
import Derived.Test.YtdkjoigpahafmaaGreatDoorBunAC
import Derived.Test.YtdkjoigpahafmaaGreatDoorBunAJ
import Derived.Deep.RegionWith
import Derived.Test.YtdkjoigpahafmaaGreatDoorBunAD
import Derived.Test.YtdkjoigpahafmaaGreatDoorRows
import Derived.Tactics
import Derived.Tactics2
import Derived.Defers
import Derived.Laws.Pointers
import Derived.Laws.LoneSync
import Derived.Laws.NewBlocks
import Derived.RegionTactic
import Derived.RegionCalls
import Derived.ChangeAlike
import Derived.Test.YtdkjoigpahafmaaGreatDoorBunAI
import Derived.Test.YtdkjoigpahafmaaGreatDoorBunAG
import Derived.RangeFuncBox
import Derived.RangeFuncNested
import Derived.RangeFuncBound
import Derived.RangeFuncCalls
import Derived.RangeFuncLeaves
import Derived.Shelf.Abstract
import Derived.Shelf.RegionOpen
import Derived.WalkKit
import Derived.OwnWalkIn
import Derived.TacticsInMore
import Derived.LoopNIn
import Derived.LoopIn

set_option linter.unusedSimpArgs false
set_option linter.unusedVariables false
set_option maxRecDepth 100000
set_option maxHeartbeats 16000000
namespace Go.Proofs.YtdkjoigpahafmaaGreatDoor
section
open Go Go.RowKit Go.Maps
theorem append_eq (S : Sd) (s b : List UInt8) : S.append s b = if (S.call [s]).2 ≠ 0 then S.call [s] else match S.names.get s with
  | none => ((S.call [s]).1, 11)
  | some i => if 250000 < b.length ∨ 250000 < S.size i + b.length then ((S.call [s]).1, 2) else if S.quota < S.used + b.length then ((S.call [s]).1, 15)
   else ({ (S.call [s]).1 with files := S.files.set i ((S.files.getD i ([], 0)).1 ++ b, (S.files.getD i ([], 0)).2) }, 0) := rfl
theorem Row.chg_not {w w' : World} {B n size : Nat} {A : Option Addr} {xs : List Value} {G : List Nat} (r : Row B w A n size xs) (h : Chg G w w') (hB : B ≤ w.heap.size) (hF : ∀ a, A = some a → a.block ∉ G) : Row w'.heap.size w' A n size xs :=
 (h.row r hB hF).up (Nat.le_trans hB h.size)
theorem DK.drew {w : World} {X : Dw} {S : Sd} (h : DK w X S) : DK w.drew X S := h.chg ((Chg.refl [] w).drew) (fun g hg => by cases hg)
theorem upd_app {w w4 : World} {X : Dw} {S : Sd} (h : DK w X S) {i : Nat} (hi : i < S.files.length) (hip : i < X.ps.length) {b : List UInt8} {v : Value} (hg : w.grownBy w4 (X.ps[i]).2.ownBlock)
  (hown : w4.ownsRow 0 5 1 v ((S.files[i]).1.length + b.length) (bts (S.files[i]).1 ++ bts b)) (hob : v.ownBlock = (X.ps[i]).2.ownBlock ∨ v.ownBlock = some w.heap.size) :
  (w4.cell? ⟨(X.ps[i]).1, 0, none⟩ = some (X.ps[i]).2 ∧ w4.frozen? ⟨(X.ps[i]).1, 0, none⟩ = false) ∧ Upd X w (w4.setCell ⟨(X.ps[i]).1, 0, none⟩ v) { S with files := S.files.set i ((S.files[i]).1 ++ b, (S.files[i]).2) } := by
 have hfile := h.file i hi hip
 have hself := h.apart.self _ (List.getElem_mem hip)
 have hv : ∀ g, v.ownBlock = some g → (X.ps[i]).2.ownBlock = some g ∨ w.heap.size ≤ g := fun g e => by
  rcases hob with h1 | h1
  ·exact .inl (by rw [← h1, e])
  ·rw [e] at h1
   injection h1 with h1
   exact .inr (by omega)
 have key := fun (w2 : World) (hf : FileAt w2 ((X.ps[i]).1, v) ((S.files[i]).1 ++ b, (S.files[i]).2)) (c : Chg (fileFoot X.ps[i]) w w2) => DK.setFile h hip hf c hv
 have hfo := foot_set hip hv
 have hffo := fun g hg => file_foot (X := X) (i := i) hip (g := g) hg
 generalize S.files[i] = f at *
 generalize X.ps[i] = p at *
 obtain ⟨hfb, hfr⟩ := hfile
 have hc1 : Chg p.2.ownBlock.toList w w4 := Chg.of_grown hg (fun b e => by simp [e])
 have hfb4 := hfb.chg hc1 (fun hm => hself (by simpa using hm))
 have hset := hfb4.store 0 v
 have hcs := chg_set w4 ⟨p.1, 0, none⟩ v
 have hvp : ∀ g, v.ownBlock = some g → g ≠ p.1 := fun g e e2 => by
  subst e2
  rcases hv _ e with h1 | h1
  ·exact hself h1
  ·have := hfb.lt
   omega
 have hrow := own_chg hown hcs (fun g e hg => hvp g e (by simpa using hg))
 have hcm : Chg (fileFoot p) w (w4.setCell ⟨p.1, 0, none⟩ v) := (hc1.mono (G := fileFoot p) (fun g hg => .inl (by simp only [fileFoot, List.mem_cons]; exact .inr hg))).setCell v (.inl (by simp [fileFoot]))
 have hdk := key _ ⟨hset, by simpa [bts_append] using hrow⟩ hcm
 have e0 := hfb4.cell 0
 simp only [gE0] at e0
 exact ⟨⟨e0, hfb4.free 0⟩, ⟨{ X with ps := X.ps.set i (p.1, v) }, rfl, hdk, hcm.mono (fun g hg => .inl (hffo g hg)), hfo⟩⟩
theorem append_any (X : Dw) (S : Sd) (s : ByteArray) (hs : s.size ≤ maxLen) (A : Option Addr) (m c : Nat) (b : List UInt8) (hm : m ≤ 1099511627776) (hw : S.Wf) (w : World) (h : DK w X S) (hr : Row w.heap.size w A m 1 (bts b)) (hA : ∀ a, A = some a → a.block ≠ X.d) :
  Calls Tryz.prog 84 #[.pointer (some ⟨X.d, 0, none⟩), .string s, .slice A m c] w fun e w' => e = .returned (.int .i64 ((S.append s.data.toList b).2 : Int)) ∧ Upd X w w' (S.append s.data.toList b).1 := by
 have hcall := call1 X S s hs hw w h
 have hw1 := hw.call [s.data.toList]
 have hbl : b.length = m := hr.btlen
 obtain ⟨e1, e2, e3, e4, e5, _, _⟩ := Sd.call_same S [s.data.toList]
 have e6 := Sd.call_used S [s.data.toList]
 have hsy := append_eq S s.data.toList b
 generalize S.call [s.data.toList] = R at *
 obtain ⟨S1, er⟩ := R
 simp only at *
 by_cases h0 : er = 0
 ·subst h0
  rw [if_neg (by simp)] at hsy
  have hfd := fun w1 h1 => find_any X S1 s hs w1 h1 hw1.names
  cases h3 : S.names.get s.data.toList with
  | none =>
   simp only [h3] at hsy
   rw [hsy]
   simp only [e1, h3] at hfd
   clear hsy h3 e1 e2 e3 e4 e5 e6 hw1 hw h hbl
   go_enter Tryz.func84, Tryz.ntmps84
   go_wp2_with fail
   refine hcall.mono ?_
   rintro e w1 ⟨rfl, h1, hc1⟩
   go_wp2_with fail
   refine (hfd w1 h1).mono ?_
   rintro e w2 ⟨rfl, rfl⟩
   go_wp2
   go_ret
   exact ⟨rfl, Upd.called h1 hc1⟩
  | some i =>
   simp only [h3] at hsy
   simp only [e1, h3] at hfd
   have hi : i < S1.files.length := by rw [e3]; exact hw.names _ (Nm.get_mem h3)
   have hsz : S.size i = (S1.files[i]).1.length := by simp [Sd.size, ← e3, List.getD_eq_getElem?_getD, hi]
   have hgd : S.files.getD i ([], 0) = S1.files[i] := by simp [← e3, List.getD_eq_getElem?_getD, hi]
   have hlen := (hw1.file i hi).2
   have hus := Sd.used_le hw1
   have hq := hw1.quota
   rw [hgd, hsz, ← e3, ← e5, ← e6, hbl] at hsy
   obtain ⟨p, hp⟩ : ∃ p, p = X.ps.getD i (0, Go.undef) := ⟨_, rfl⟩
   rw [← hp] at hfd
   have hE : ∀ (w1 : World) (h1 : DK w1 X S1), ∃ fA fc, p.2 = .slice fA (S1.files[i]).1.length fc ∧ w1.cell? ⟨p.1, 0, none⟩ = some (.slice fA (S1.files[i]).1.length fc) := fun w1 h1 => by
    have hip : i < X.ps.length := by rw [h1.flen]; exact hi
    have hptr : X.ps.getD i (0, Go.undef) = X.ps[i] := by simp [List.getD_eq_getElem?_getD, hip]
    obtain ⟨hfb, hfr⟩ := h1.file i hi hip
    obtain ⟨fA, fc, hfv, _⟩ := own_form hfr
    have e0 := hfb.cell 0
    simp only [gE0] at e0
    rw [hp, hptr]
    exact ⟨fA, fc, hfv, by rw [e0, hfv]⟩
   by_cases hlong : 250000 < m ∨ 250000 < (S1.files[i]).1.length + m
   ·rw [if_pos hlong] at hsy
    rw [hsy]
    have HE := Lib.hid hE
    clear hp hE hsy hsz hgd h3 e1 e2 e3 e4 e5 e6 hw hbl h hus hq
    generalize (S1.files[i]).1.length = F at *
    by_cases hl1 : 250000 < m
    ·have hl1' : (250000 : Int) < (m : Int) := by omega
     go_enter Tryz.func84, Tryz.ntmps84
     go_wp2_with fail
     refine hcall.mono ?_
     rintro e w1 ⟨rfl, h1, hc1⟩
     go_wp2_with fail
     refine (hfd w1 h1).mono ?_
     rintro e w2 ⟨rfl, rfl⟩
     unfold ptrV
     go_wp2
     go_ret
     exact ⟨rfl, Upd.called h1 hc1⟩
    ·have hl1' : ((250000 : Int) < (m : Int)) = False := by simp; omega
     have hl2' : (250000 : Int) - (m : Int) < (F : Int) := by omega
     go_enter Tryz.func84, Tryz.ntmps84
     go_wp2_with fail
     refine hcall.mono ?_
     rintro e w1 ⟨rfl, h1, hc1⟩
     go_wp2_with fail
     refine (hfd w1 h1).mono ?_
     rintro e w2 ⟨rfl, rfl⟩
     obtain ⟨fA, fc, _, e0⟩ := HE.out w1 h1
     unfold ptrV
     go_wp2
     go_ret
     exact ⟨rfl, Upd.called h1 hc1⟩
   ·rw [if_neg hlong] at hsy
    have hl1' : ((250000 : Int) < (m : Int)) = False := by simp; omega
    have hl2' : ((250000 : Int) - (m : Int) < ((S1.files[i]).1.length : Int)) = False := by simp; omega
    have hsub : (250000 : Int) - (m : Int) ≤ 250000 := by omega
    have hm' : m ≤ 250000 := by omega
    have hip : ∀ w1, DK w1 X S1 → i < X.ps.length := fun w1 h1 => by rw [h1.flen]; exact hi
    have hfin : ∀ (w1 w4 : World) (v : Value) (h1 : DK w1 X S1) (hg : w1.grownBy w4 p.2.ownBlock) (hown : w4.ownsRow 0 5 1 v ((S1.files[i]).1.length + m) (bts (S1.files[i]).1 ++ bts b)) (hob : v.ownBlock = p.2.ownBlock ∨ v.ownBlock = some w1.heap.size),
      (w4.cell? ⟨p.1, 0, none⟩ = some p.2 ∧ w4.frozen? ⟨p.1, 0, none⟩ = false) ∧ Upd X w1 (w4.setCell ⟨p.1, 0, none⟩ v) { S1 with files := S1.files.set i ((S1.files[i]).1 ++ b, (S1.files[i]).2) } := fun w1 w4 v h1 hg hown hob => by
     have hptr : p = X.ps[i]'(hip w1 h1) := by rw [hp]; simp [List.getD_eq_getElem?_getD, hip w1 h1]
     rw [hptr] at hg hob ⊢
     exact upd_app h1 hi (hip w1 h1) hg (by rw [hbl]; exact hown) hob
    have hrow : ∀ w1, DK w1 X S1 → w1.ownsRow 0 5 1 p.2 (S1.files[i]).1.length (bts (S1.files[i]).1) := fun w1 h1 => by
     have hptr : p = X.ps[i]'(hip w1 h1) := by rw [hp]; simp [List.getD_eq_getElem?_getD, hip w1 h1]
     rw [hptr]
     exact (h1.file i hi (hip w1 h1)).row
    have HE := Lib.hid hE
    have HFIN := Lib.hid hfin
    have HROW := Lib.hid hrow
    have huse := fun w1 h1 => used_any X S1 w1 h1 hw1.names (Nat.le_trans hus (by omega))
    clear hE hp hfin hrow hsz hgd h3 e1 e2 e3 e4 e5 e6 hw hbl h hlong hip
    have hqd : ∀ w1, DK w1 X S1 → w1.cell? ⟨X.d, 0, none⟩ = some (.int .i64 (S1.quota : Int)) := fun w1 h1 => by rw [h1.box.cell 0]; rfl
    have HQD := Lib.hid hqd
    clear hqd
    obtain ⟨i0, hi0, hz0, hz1, hz2⟩ := info_parts info_u8
    have hq1 : IntKind.i64.wrap ((S1.quota : Int) - (m : Int)) = (S1.quota : Int) - (m : Int) := by
     have hb : -9223372036854775808 ≤ (S1.quota : Int) - (m : Int) ∧ (S1.quota : Int) - (m : Int) ≤ 9223372036854775807 := by omega
     rw [IntKind.wrap_i64]
     have hw := IntWalk.wrap64_in _ hb
     unfold wrap64 at hw
     exact hw
    have HQ1 := Lib.hid hq1
    clear hq1
    by_cases hqf : S1.quota < S1.used + m
    ·rw [if_pos hqf] at hsy
     rw [hsy]
     have hqf' : (S1.quota : Int) - (m : Int) < (S1.used : Int) := by omega
     clear hsy hqf
     generalize (S1.files[i]).1.length = F at *
     go_enter Tryz.func84, Tryz.ntmps84
     go_wp2_with fail
     refine hcall.mono ?_
     rintro e w1 ⟨rfl, h1, hc1⟩
     go_wp2_with fail
     refine (hfd w1 h1).mono ?_
     rintro e w2 ⟨rfl, rfl⟩
     obtain ⟨fA, fc, hpv, e0⟩ := HE.out w1 h1
     have q0 := HQD.out w1 h1
     have hUSE := Lib.hid huse
     clear huse hpv
     unfold ptrV
     go_wp2
     have hq1 := HQ1.out
     go_region_with ((go_at_call 159; refine (hUSE.out _ h1.drew).mono ?_; rintro e w2 ⟨rfl, hb2⟩; have q0 := HQD.out w2 (h1.drew.below hb2)))
     all_goals
      have hfinal : Upd X w w2 S1 := Upd.called (h1.drew.below hb2) (hc1.trans ((Chg.refl [X.d] w1).drew.trans (Chg.of_below hb2 [X.d]) (fun g hg => .inl hg)) (fun g hg => .inl hg))
      clear q0
      go_wp2
      go_ret
      exact ⟨rfl, hfinal⟩
    ·rw [if_neg hqf] at hsy
     rw [hsy]
     have hqf' : ((S1.quota : Int) - (m : Int) < (S1.used : Int)) = False := by simp; omega
     clear hsy hqf
     obtain ⟨f, hf⟩ : ∃ f, f = S1.files[i] := ⟨_, rfl⟩
     rw [← hf] at HROW HFIN HE hl2' hlen ⊢
     clear hf
     go_enter Tryz.func84, Tryz.ntmps84
     go_wp2_with fail
     refine hcall.mono ?_
     rintro e w1 ⟨rfl, h1, hc1⟩
     go_wp2_with fail
     refine (hfd w1 h1).mono ?_
     rintro e w2 ⟨rfl, rfl⟩
     obtain ⟨fA, fc, hpv, e0⟩ := HE.out w1 h1
     have HPV := Lib.hid hpv
     have q0 := HQD.out w1 h1
     have hUSE := Lib.hid huse
     have hrA := Lib.hid (Row.chg_not hr hc1 (Nat.le_refl _) (fun a e hg => hA a e (by simpa using hg)))
     clear huse hpv
     unfold ptrV
     go_wp2
     have hq1 := HQ1.out
     go_region_with ((go_at_call 159; refine (hUSE.out _ h1.drew).mono ?_; rintro e w2 ⟨rfl, hb2⟩; have q0 := HQD.out w2 (h1.drew.below hb2)))
     all_goals
      have h2 := h1.drew.below hb2
      have hc2 : Chg [X.d] w w2 := hc1.trans ((Chg.refl [X.d] w1).drew.trans (Chg.of_below hb2 [X.d]) (fun g hg => .inl hg)) (fun g hg => .inl hg)
      have hr2 := Lib.hid ((hrA.out.drew.below hb2).arg (Nat.le_trans (by simp) hb2.size))
      have e2 : w2.cell? ⟨p.1, 0, none⟩ = some (.slice fA f.1.length fc) := by
       obtain ⟨fA', fc', h7, h8⟩ := HE.out w2 h2
       rw [h8, ← h7, HPV.out]
      have hrw := HROW.out w2 h2
      rw [HPV.out] at hrw
      have HRW := Lib.hid hrw
      have hfn := fun w4 v => HFIN.out w2 w4 v h2
      rw [HPV.out] at hfn
      have HFN := Lib.hid hfn
      clear q0 e0 hrw hfn hrA hq1 hl2'
      go_wp2_with (at_builtin; refine stop_in ?_)
      refine stop_out (wpList_appG rfl (.tmp 52) (.tmp 53) _ rfl 0 5 i0 _ 1 1 Tryz.underlying121 hi0 hz0 hz1 hz2 rfl (by omega) (Nat.zero_le _) (.slice fA f.1.length fc) f.1.length _ rfl HRW.out _ A m c (bts b) rfl hr2.out (bts_one _) (f.1.length + m) _ rfl rfl (by unfold maxLen; omega) (by omega) ?_)
      intro A4 c4 w4 hown4 hg4 _ _ hob4
      obtain ⟨⟨q4, q5⟩, hup⟩ := HFN.out _ _ hg4 hown4 hob4
      have HU := Lib.hid (Upd.after hc2 hup)
      clear hown4 hg4 hob4 HRW HFN hup e2
      go_wp2
      go_ret
      exact ⟨rfl, HU.out⟩
 ·have hne := neq0 h0
  rw [if_pos h0] at hsy
  rw [hsy]
  clear hsy e1 e2 e3 e4 e5 h0 e6
  go_enter Tryz.func84, Tryz.ntmps84
  go_wp2_with fail
  refine hcall.mono ?_
  rintro e w1 ⟨rfl, h1, hc1⟩
  go_wp2
  go_ret
  exact ⟨rfl, Upd.called h1 hc1⟩
end
section
open Go Go.RowKit Go.Shelf
structure Dm (w : World) (X : Dw) (S : Sd) : Prop where
 dk : DK w X S
 wf : S.Wf
 env : Env w
 base : ∀ g ∈ X.foot, NG ≤ g
theorem Dm.below {w w' : World} {X : Dw} {S : Sd} (h : Dm w X S) (hb : Below w.heap.size w w') : Dm w' X S := ⟨h.dk.below hb, h.wf, h.env.below hb, h.base⟩
theorem Dm.chg {w w' : World} {X : Dw} {S : Sd} {G : List Nat} (h : Dm w X S) (c : Chg G w w') (hG : ∀ g ∈ G, g ∉ X.foot ∧ NG ≤ g) : Dm w' X S := ⟨h.dk.chg c (fun g hg => (hG g hg).1), h.wf, h.env.chg c (fun g hg => (hG g hg).2), h.base⟩
def UpdM (X : Dw) (w w' : World) (S' : Sd) : Prop := ∃ X', X'.d = X.d ∧ Dm w' X' S' ∧ Chg X.foot w w' ∧ ∀ g ∈ X'.foot, g ∈ X.foot ∨ w.heap.size ≤ g
theorem Dm.upd {w w' : World} {X : Dw} {S S' : Sd} (h : Dm w X S) (hw : S'.Wf) (hu : Upd X w w' S') : UpdM X w w' S' := by
 obtain ⟨X', e, hd, hc, hf⟩ := hu
 have hb := h.env.base
 exact ⟨X', e, ⟨hd, hw, h.env.chg hc h.base, fun g hg => by
  rcases hf g hg with h1 | h1
  ·exact h.base g h1
  ·omega⟩, hc, hf⟩
theorem UpdM.same {w w' : World} {X : Dw} {S : Sd} (h : Dm w X S) (hb : Below w.heap.size w w') : UpdM X w w' S := ⟨X, rfl, h.below hb, Chg.of_below hb _, fun _ hg => .inl hg⟩
theorem UpdM.trans {w w1 w2 : World} {X X1 : Dw} {S2 : Sd} (e : X1.d = X.d) (c : Chg X.foot w w1) (hf : ∀ g ∈ X1.foot, g ∈ X.foot ∨ w.heap.size ≤ g) (h2 : UpdM X1 w1 w2 S2) : UpdM X w w2 S2 := by
 obtain ⟨X', e', h, c', hf'⟩ := h2
 refine ⟨X', e'.trans e, h, c.trans c' (fun g hg => hf g hg), fun g hg => ?_⟩
 rcases hf' g hg with h3 | h3
 ·exact hf g h3
 ·exact .inr (Nat.le_trans c.size h3)
theorem list_named {S : Sd} (hw : S.Wf) : ∀ s ∈ S.list, Sd.named s = true := by
 intro s hs
 unfold Sd.list at hs
 split at hs
 ·cases hs
 ·rw [List.mem_mergeSort] at hs
  obtain ⟨p, hp, rfl⟩ := List.mem_map.1 hs
  exact hw.gnames p hp
theorem named_len {s : List UInt8} (h : Sd.named s = true) : 1 ≤ s.length ∧ s.length ≤ 16 := by
 simp only [Sd.named, Bool.and_eq_true, decide_eq_true_eq] at h
 exact h.1
theorem list_len {S : Sd} (hw : S.Wf) : S.list.length ≤ 64 := by
 unfold Sd.list
 split
 ·simp
 ·rw [List.length_mergeSort, List.length_map]; exact hw.most
theorem Row.enc {B n : Nat} {w : World} {A : Option Addr} {ss : List (List UInt8)} (h : Row B w A n 1 (ss.map Go.Proofs.encStr)) {k : Nat} (hk : k < n) : ∃ a, ∃ hl : k < ss.length, A = some a ∧ a.block < B ∧ w.cell? (a.add k) = some (.string (str ss[k])) := by
 obtain ⟨a, v, e, hb, hv, hc⟩ := h.at1 hk
 have hl : k < ss.length := by
  have := h.len
  simp at this
  omega
 rw [List.getElem?_map, List.getElem?_eq_getElem hl] at hv
 injection hv with hv
 subst hv
 exact ⟨a, hl, e, hb, hc⟩
theorem greatest_any (X : Dw) (S : Sd) (k : ByteArray) (hk : k.size ≤ 1000) (w : World) (h : Dm w X S) :
  Calls Tryz.prog 144 #[.pointer (some ⟨X.d, 0, none⟩), .string k] w fun e w' => e = .returned (.int .i64 (Mn.greatest S.list k.data.toList)) ∧ Below w.heap.size w w' := by
 have hl := dlist_any X S h.wf w h.dk
 have hnm := list_named h.wf
 have hlen := list_len h.wf
 obtain ⟨L, hL⟩ : ∃ L, L = S.list := ⟨_, rfl⟩
 rw [← hL] at hl hnm hlen ⊢
 clear hL
 have HNM := Lib.hid hnm
 clear hnm
 obtain ⟨R, hR⟩ : ∃ R, R = Mn.greatest L k.data.toList := ⟨_, rfl⟩
 rw [← hR]
 have HR := Lib.hid hR
 clear hR
 go_enter Tryz.func144, Tryz.ntmps144
 go_wp2_with fail
 refine hl.mono ?_
 rintro e w1 ⟨A, c, rfl, hown, hb1⟩
 have hrow := Row.own hown
 have hcap : L.length ≤ c := by
  obtain ⟨A', c', e, h1, _⟩ := own_form hown
  injection e with _ e2 e3
  omega
 go_wp2
 go_loopw [5, 13] (fun m i wr => ∃ j : Nat, j ≤ L.length ∧ i = .int .i64 (j : Int) ∧ m = .int .i64 (Mn.greatest (L.take j) k.data.toList) ∧ Below w.heap.size w wr ∧ Below w1.heap.size w1 wr) (fun _ i _ => L.length - (intOf i).toNat)
 case atStart => exact ⟨0, Nat.zero_le _, rfl, rfl, hb1, Below.refl _ _⟩
 case round =>
  obtain ⟨j, hj, rfl, rfl, hbw, hb1w⟩ := hrel
  by_cases hlt : j < L.length
  ·have hrow' := (hrow.below hb1w)
   obtain ⟨a, hl', rfl, _, hcl⟩ := hrow'.enc hlt
   have hsn := HNM.out _ (List.getElem_mem hl')
   have hsl := named_len hsn
   have HT := Lib.hid (Mn.greatest_take hl' k.data.toList)
   have hnum := number_any (str L[j]) k (by rw [str_size]; omega) hk wr (h.env.below hbw)
   rw [list_str] at hnum
   generalize L[j] = s at *
   go_wp2_with fail
   refine hnum.mono ?_
   rintro e w2 ⟨rfl, hb2⟩
   have hb3 := hbw.trans (hb2.mono hbw.size)
   have hb4 := hb1w.trans (hb2.mono hb1w.size)
   cases hns : Mn.number s k.data.toList with
   | none =>
    rw [hns] at HT
    unfold numV
    generalize hG : Mn.greatest (L.take j) k.data.toList = G at *
    clear hnum hcl hrow'
    go_wp2
    go_roundw
    case rel => exact ⟨j + 1, by omega, by go_num, by rw [HT.out]; simp, hb3, hb4⟩
    case measure => simp [intOf]; omega
   | some v =>
    rw [hns] at HT
    unfold numV
    generalize hG : Mn.greatest (L.take j) k.data.toList = G at *
    clear hnum hcl hrow'
    go_wp2
    go_roundw
    case rel => exact ⟨j + 1, by omega, by go_num, by rw [HT.out]; simp, hb3, hb4⟩
    case measure => simp [intOf]; omega
  ·have e1 : L.take j = L := List.take_of_length_le (by omega)
   rw [e1, ← show R = _ from HR.out]
   go_wp2
   go_ret
   exact ⟨rfl, hbw⟩
theorem write_any (X : Dw) (S : Sd) (s : ByteArray) (hs : s.size ≤ maxLen) (A : Option Addr) (m c : Nat) (b : List UInt8) (hm : m ≤ 1099511627776) (hl : S.load ≤ 1099511627776) (w : World) (h : Dm w X S) (hr : Row w.heap.size w A m 1 (bts b)) (hA : ∀ a, A = some a → a.block ∉ X.foot) :
  Calls Tryz.prog 199 #[.pointer (some ⟨X.d, 0, none⟩), .string s, .slice A m c] w fun e w' => e = .returned (.int .i64 ((S.write s.data.toList b).2 : Int)) ∧ UpdM X w w' (S.write s.data.toList b).1 := by
 have hcr := create_any X S s hs h.wf hl w h.dk
 have hw1 := h.wf.create s.data.toList
 have hup1 := fun w1 (hu : Upd X w w1 (S.create s.data.toList).1) => h.upd hw1 hu
 have hsy : S.write s.data.toList b = if (S.create s.data.toList).2 ≠ 0 then S.create s.data.toList else if ((S.create s.data.toList).1.append s.data.toList b).2 ≠ 0 then (S.create s.data.toList).1.append s.data.toList b
  else ((S.create s.data.toList).1.append s.data.toList b).1.sync s.data.toList := rfl
 generalize S.create s.data.toList = R1 at *
 obtain ⟨S1, e1⟩ := R1
 simp only at *
 by_cases h0 : e1 = 0
 ·subst h0
  rw [if_neg (by simp)] at hsy
  have hw2 := hw1.append s.data.toList b
  have hap := fun X1 w1 (h1 : DK w1 X1 S1) hr1 hA1 => append_any X1 S1 s hs A m c b hm hw1 w1 h1 hr1 hA1
  generalize S1.append s.data.toList b = R2 at *
  obtain ⟨S2, e2⟩ := R2
  simp only at *
  by_cases h1 : e2 = 0
  ·subst h1
   rw [if_neg (by simp)] at hsy
   have hw3 := hw2.sync s.data.toList
   have hsn := fun X1 w1 (h1 : DK w1 X1 S2) => sync_any X1 S2 s hs hw2 w1 h1
   generalize S2.sync s.data.toList = R3 at *
   obtain ⟨S3, e3⟩ := R3
   simp only at *
   rw [hsy]
   clear hsy
   have HR := Lib.hid hr
   have HA := Lib.hid hA
   clear hr hA
   go_enter Tryz.func199, Tryz.ntmps199
   go_wp2_with fail
   refine hcr.mono ?_
   rintro e w1 ⟨rfl, hu1⟩
   obtain ⟨X1, ed1, hd1, hc1, hf1⟩ := hup1 w1 hu1
   have hr1 := Row.chg_not HR.out hc1 (Nat.le_refl _) HA.out
   have hA1 : ∀ a, A = some a → a.block ≠ X1.d := fun a ha => by rw [ed1]; exact fun e => HA.out a ha (by rw [e]; exact mem_foot.2 (.inl rfl))
   have hcall2 := hap X1 w1 hd1.dk hr1 hA1
   rw [ed1] at hcall2
   have H2 := Lib.hid hcall2
   clear hcall2 hA1 hap hup1 hu1 hr1
   go_wp2_with fail
   refine H2.out.mono ?_
   rintro e w2 ⟨rfl, hu2⟩
   obtain ⟨X2, ed2, hd2, hc2, hf2⟩ := hd1.upd hw2 hu2
   have hcall3 := hsn X2 w2 hd2.dk
   rw [ed2, ed1] at hcall3
   have H3 := Lib.hid hcall3
   clear hcall3 hsn hu2
   go_wp2_with fail
   refine H3.out.mono ?_
   rintro e w3 ⟨rfl, hu3⟩
   have hfin := UpdM.trans ed1 hc1 hf1 (UpdM.trans ed2 hc2 hf2 (hd2.upd hw3 hu3))
   clear hu3
   go_wp2
   go_ret
   exact ⟨rfl, hfin⟩
  ·have hne := neq0 h1
   rw [if_pos h1] at hsy
   rw [hsy]
   clear hsy
   have HR := Lib.hid hr
   have HA := Lib.hid hA
   clear hr hA h1
   go_enter Tryz.func199, Tryz.ntmps199
   go_wp2_with fail
   refine hcr.mono ?_
   rintro e w1 ⟨rfl, hu1⟩
   obtain ⟨X1, ed1, hd1, hc1, hf1⟩ := hup1 w1 hu1
   have hr1 := Row.chg_not HR.out hc1 (Nat.le_refl _) HA.out
   have hA1 : ∀ a, A = some a → a.block ≠ X1.d := fun a ha => by rw [ed1]; exact fun e => HA.out a ha (by rw [e]; exact mem_foot.2 (.inl rfl))
   have hcall2 := hap X1 w1 hd1.dk hr1 hA1
   rw [ed1] at hcall2
   have H2 := Lib.hid hcall2
   clear hcall2 hA1 hap hup1 hu1 hr1
   go_wp2_with fail
   refine H2.out.mono ?_
   rintro e w2 ⟨rfl, hu2⟩
   have hfin := UpdM.trans ed1 hc1 hf1 (hd1.upd hw2 hu2)
   clear hu2
   go_wp2
   go_ret
   exact ⟨rfl, hfin⟩
 ·have hne := neq0 h0
  rw [if_pos h0] at hsy
  rw [hsy]
  clear hsy h0
  go_enter Tryz.func199, Tryz.ntmps199
  go_wp2_with fail
  refine hcr.mono ?_
  rintro e w1 ⟨rfl, hu1⟩
  have hfin := hup1 w1 hu1
  clear hu1 hup1
  go_wp2
  go_ret
  exact ⟨rfl, hfin⟩
end
section
open Go Go.RowKit
namespace Once
theorem disable (w : World) : (callFunc 317 #[]).run Tryz.prog w = .ok (.value (.tuple #[])) w := run_call_mark0 Tryz.func317 (by kernel_rfl) (by kernel_rfl) (by kernel_rfl) .disable (by kernel_rfl) w
theorem enable (w : World) : (callFunc 319 #[]).run Tryz.prog w = .ok (.value (.tuple #[])) w := run_call_mark0 Tryz.func319 (by kernel_rfl) (by kernel_rfl) (by kernel_rfl) .enable (by kernel_rfl) w
theorem acquire (a : Addr) (w : World) : (callFunc 320 #[.pointer (some a)]).run Tryz.prog w = .ok (.value (.tuple #[])) w := run_call_marked Tryz.func320 (by kernel_rfl) (by kernel_rfl) (by kernel_rfl) .acquire (by kernel_rfl) a w
theorem releaseMerge (a : Addr) (w : World) : (callFunc 322 #[.pointer (some a)]).run Tryz.prog w = .ok (.value (.tuple #[])) w := run_call_marked Tryz.func322 (by kernel_rfl) (by kernel_rfl) (by kernel_rfl) .releaseMerge (by kernel_rfl) a w
theorem store_deferred (a : Addr) (x : Value) (u : FrameMode) (w : World) (hc : w.cell? a = some x) (hz : w.frozen? a = false) :
  CallsD Tryz.prog 277 #[.pointer (some a), .bool true] u w fun e u' w' => u' = u ∧ (e = .returned (.tuple #[]) ∧ w' = w.drew.setCell a (.int .u32 1)) := by
 have hc' : w.drew.cell? a = some x := by go_simp
 have hz' : w.drew.frozen? a = false := by go_simp
 have hst := run_call_store (P := Tryz.prog) Tryz.func304 (by kernel_rfl) (by kernel_rfl) (by kernel_rfl) (by kernel_rfl) (k := .u32) (y := 1) hc' hz'
 go_enter_d Tryz.func277, Tryz.ntmps277
 go_wp2
 go_region_calls
 all_goals (go_end0; exact ⟨rfl, rfl⟩)
theorem unlock_deferred (a : Addr) (u : FrameMode) (w : World) (hc : w.cell? a = some (.int .i32 1)) (hz : w.frozen? a = false) :
  CallsD Tryz.prog 276 #[.pointer (some a)] u w fun e u' w' => u' = u ∧ (e = .returned (.tuple #[]) ∧ w' = w.setCell a (.int .i32 0)) := by
 have hd := disable
 have he := enable
 have hr := releaseMerge
 have hadd := run_call_add (P := Tryz.prog) Tryz.func323 (by kernel_rfl) (by kernel_rfl) (by kernel_rfl) .i32 (by kernel_rfl) (y := -1) (s := 0) hc hz (by simp [go_sem]; rfl)
 first | have hcv := run_convert_to_unsafe (P := Tryz.prog) (src := 387) (dst := 233) Tryz.underlying387 Tryz.underlying233 (by kernel_rfl) hc | have hcv := run_convert_to_unsafe (P := Tryz.prog) (src := 373) (dst := 233) Tryz.underlying373 Tryz.underlying233 (by kernel_rfl) hc | have hcv := run_convert_to_unsafe (P := Tryz.prog) (src := 406) (dst := 233) Tryz.underlying406 Tryz.underlying233 (by kernel_rfl) hc | have hcv := run_convert_to_unsafe (P := Tryz.prog) (src := 233) (dst := 233) Tryz.underlying233 Tryz.underlying233 (by kernel_rfl) hc
 go_enter_d Tryz.func276, Tryz.ntmps276
 go_wp2
 go_end0
 go_wp2
 go_end0
 exact ⟨rfl, rfl⟩
theorem lock_free (a : Addr) (w : World) (hc : w.cell? a = some (.int .i32 0)) (hz : w.frozen? a = false) :
  Calls Tryz.prog 275 #[.pointer (some a)] w fun e w' => e = .returned (.tuple #[]) ∧ w' = w.setCell a (.int .i32 1) := by
 have hd := disable
 have he := enable
 have ha := acquire
 have hcas := run_call_cas_hit (P := Tryz.prog) Tryz.func318 (by kernel_rfl) (by kernel_rfl) (by kernel_rfl) .i32 (by kernel_rfl) (y := 1) hc hz
 have hc' : (w.setCell a (.int .i32 1)).cell? a = some (.int .i32 1) := World.cell?_setCell_same w a _ hc
 first | have hcv := run_convert_to_unsafe (P := Tryz.prog) (src := 387) (dst := 233) Tryz.underlying387 Tryz.underlying233 (by kernel_rfl) hc' | have hcv := run_convert_to_unsafe (P := Tryz.prog) (src := 373) (dst := 233) Tryz.underlying373 Tryz.underlying233 (by kernel_rfl) hc' | have hcv := run_convert_to_unsafe (P := Tryz.prog) (src := 406) (dst := 233) Tryz.underlying406 Tryz.underlying233 (by kernel_rfl) hc' | have hcv := run_convert_to_unsafe (P := Tryz.prog) (src := 233) (dst := 233) Tryz.underlying233 Tryz.underlying233 (by kernel_rfl) hc'
 go_enter Tryz.func275, Tryz.ntmps275
 go_wp2
 first | go_end0 | (simp only [Exit.inBlock, Exit.then]; refine bodyPost_ret (results_none rfl _ _ _) rfl ?_) | refine bodyPost_ret (results_none rfl _ _ _) rfl ?_
 go_wp2
 go_end0
 exact ⟨rfl, rfl⟩
end Once
end
section
open Go Go.RowKit
namespace Once
theorem slow_any (b : Nat) (pl : Addr) (hpb : ¬ b = pl.block) (x3 : Value) (w : World) (hp : w.cell? pl = some (.pointer (some ⟨b, 0, none⟩)))
  (h0 : w.cell? ⟨b, 9, none⟩ = some (.int .u32 0)) (h1 : w.cell? ⟨b, 10, none⟩ = some (.int .i32 0)) (h3 : w.cell? ⟨b, 12, none⟩ = some x3)
  (f0 : w.frozen? ⟨b, 9, none⟩ = false) (f1 : w.frozen? ⟨b, 10, none⟩ = false) (f3 : w.frozen? ⟨b, 12, none⟩ = false) :
  Calls Tryz.prog 253 #[.pointer (some ⟨b, 9, none⟩), .func (.func 245) #[] #[.pointer (some pl)]] w fun e w' => e = .returned (.tuple #[]) ∧
   w' = (((w.setCell ⟨b, 10, none⟩ (.int .i32 1)).setCell ⟨b, 12, none⟩ (.bool true)).drew.setCell ⟨b, 9, none⟩ (.int .u32 1)).setCell ⟨b, 10, none⟩ (.int .i32 0) := by
 have hl := run_call_load (P := Tryz.prog) Tryz.func274 (by kernel_rfl) (by kernel_rfl) (by kernel_rfl) .u32 (by kernel_rfl) (w := w.setCell ⟨b, 10, none⟩ (.int .i32 1)) (a := ⟨b, 9, none⟩) (x := 0) ((World.cell?_setCell_other _ ⟨b, 10, none⟩ ⟨b, 9, none⟩ _ (by simp)).trans h0)
 have hp1 : (w.setCell ⟨b, 10, none⟩ (.int .i32 1)).cell? pl = some (.pointer (some ⟨b, 0, none⟩)) := (World.cell?_setCell_other _ ⟨b, 10, none⟩ pl _ (fun h => hpb (by rw [← h]))).trans hp
 have h31 : (w.setCell ⟨b, 10, none⟩ (.int .i32 1)).cell? ⟨b, 12, none⟩ = some x3 := (World.cell?_setCell_other _ ⟨b, 10, none⟩ ⟨b, 12, none⟩ _ (by simp)).trans h3
 have hnot : ∀ (x : Bool) (w : World), (Op.unary .not (.bool x)).run Tryz.prog w = .ok (.bool (!x)) w := fun _ _ => rfl
 go_enter_defers Tryz.func253, Tryz.ntmps253
 go_wp2_with (go_at_call 275; refine (lock_free ⟨b, 10, none⟩ _ (by go_simp) (by go_simp)).mono ?_; rintro e w' ⟨rfl, rfl⟩)
 go_wp2
 go_end0
 go_wp2
 -- THE DOOR: two deferred calls, the last laid first
 refine leaves_cons (f := 277) (args := #[.pointer (some ⟨b, 9, none⟩), .bool true]) (by simp) (by simp [go_sem]) ?_
 refine (store_deferred ⟨b, 9, none⟩ (.int .u32 0) .returning _ ?_ (by simp [f0])).mono ?_
 ·exact (World.cell?_setCell_other _ ⟨b, 12, none⟩ ⟨b, 9, none⟩ _ (by simp)).trans ((World.cell?_setCell_other _ ⟨b, 10, none⟩ ⟨b, 9, none⟩ _ (by simp)).trans h0)
 rintro e u' w'' ⟨rfl, rfl, rfl⟩
 refine leaves_cons (f := 276) (args := #[.pointer (some ⟨b, 10, none⟩)]) (by simp [settle]) (by simp [go_sem]) ?_
 refine (unlock_deferred ⟨b, 10, none⟩ _ _ ?_ (by simp [f1])).mono ?_
 ·refine (World.cell?_setCell_other _ ⟨b, 9, none⟩ ⟨b, 10, none⟩ _ (by simp)).trans ?_
  rw [World.cell?_drew]
  exact (World.cell?_setCell_other _ ⟨b, 12, none⟩ ⟨b, 10, none⟩ _ (by simp)).trans (World.cell?_setCell_same w _ _ h1)
 rintro e u' w'' ⟨rfl, rfl, rfl⟩
 simp [Leaves, settle, results, Tryz.results253]
theorem do_first (b : Nat) (pl : Addr) (hpb : ¬ b = pl.block) (x3 : Value) (w : World) (hp : w.cell? pl = some (.pointer (some ⟨b, 0, none⟩)))
  (h0 : w.cell? ⟨b, 9, none⟩ = some (.int .u32 0)) (h1 : w.cell? ⟨b, 10, none⟩ = some (.int .i32 0)) (h3 : w.cell? ⟨b, 12, none⟩ = some x3)
  (f0 : w.frozen? ⟨b, 9, none⟩ = false) (f1 : w.frozen? ⟨b, 10, none⟩ = false) (f3 : w.frozen? ⟨b, 12, none⟩ = false) :
  Calls Tryz.prog 222 #[.pointer (some ⟨b, 9, none⟩), .func (.func 245) #[] #[.pointer (some pl)]] w fun e w' => e = .returned (.tuple #[]) ∧ w' = ((((w.setCell ⟨b, 10, none⟩ (.int .i32 1)).setCell ⟨b, 12, none⟩ (.bool true)).drew.setCell ⟨b, 9, none⟩ (.int .u32 1)).setCell ⟨b, 10, none⟩ (.int .i32 0)) := by
 have hl := run_call_load (P := Tryz.prog) Tryz.func274 (by kernel_rfl) (by kernel_rfl) (by kernel_rfl) .u32 (by kernel_rfl) h0
 have hnot : ∀ (x : Bool) (w : World), (Op.unary .not (.bool x)).run Tryz.prog w = .ok (.bool (!x)) w := fun _ _ => rfl
 go_enter Tryz.func222, Tryz.ntmps222
 go_wp2_with (first | (go_at_call 253; refine (slow_any b pl hpb x3 _ hp h0 h1 h3 f0 f1 f3).mono ?_; rintro e w' ⟨rfl, rfl⟩) | (go_at_call 252; go_in))
 go_end0
 exact ⟨rfl, rfl⟩
theorem do_done (a : Addr) (d : Int) (hd : ¬ d = 0) (fv : Value) (w : World) (h0 : w.cell? a = some (.int .u32 d)) :
  Calls Tryz.prog 222 #[.pointer (some a), fv] w fun e w' => e = .returned (.tuple #[]) ∧ w' = w := by
 have hl := run_call_load (P := Tryz.prog) Tryz.func274 (by kernel_rfl) (by kernel_rfl) (by kernel_rfl) .u32 (by kernel_rfl) h0
 have hnot : ∀ (x : Bool) (w : World), (Op.unary .not (.bool x)).run Tryz.prog w = .ok (.bool (!x)) w := fun _ _ => rfl
 have hd' : (d != 0) = true := by simp [hd]
 go_enter Tryz.func222, Tryz.ntmps222
 go_wp2
 go_end0
 exact ⟨rfl, rfl⟩
end Once
end
section
open Go Go.RowKit Go.Shelf
structure Acc (F : List Nat) (X : Dw) (w : World) (S : Sd) (w' : World) (X' : Dw) : Prop where
 e : X'.d = X.d
 dm : Dm w' X' S
 c : Chg (F ++ X.foot) w w'
 f : ∀ g ∈ X'.foot, g ∈ X.foot ∨ w.heap.size ≤ g
variable {F : List Nat} {X X1 : Dw} {w w1 w2 : World} {S S1 : Sd}
theorem Acc.start (h : Dm w X S) : Acc F X w S w X := ⟨rfl, h, Chg.refl _ _, fun _ hg => .inl hg⟩
theorem Acc.below (h : Acc F X w S w1 X1) (hb : Below w1.heap.size w1 w2) : Acc F X w S w2 X1 := ⟨h.e, h.dm.below hb, h.c.trans (Chg.of_below hb []) (fun g hg => by cases hg), h.f⟩
theorem Acc.step (h : Acc F X w S w1 X1) (hu : UpdM X1 w1 w2 S1) : ∃ X2, Acc F X w S1 w2 X2 := by
 obtain ⟨X2, e, hd, hc, hf⟩ := hu
 refine ⟨X2, e.trans h.e, hd, h.c.trans hc (fun g hg => ?_), fun g hg => ?_⟩
 ·rcases h.f g hg with h1 | h1
  ·exact .inl (List.mem_append_right _ h1)
  ·exact .inr h1
 ·rcases hf g hg with h1 | h1
  ·exact h.f g h1
  ·exact .inr (Nat.le_trans h.c.size h1)
theorem Acc.other (h : Acc F X w S w1 X1) {G : List Nat} (c : Chg G w1 w2) (hG : ∀ g ∈ G, g ∈ F ∧ g < w.heap.size ∧ g ∉ X.foot ∧ NG ≤ g) : Acc F X w S w2 X1 := by
 refine ⟨h.e, h.dm.chg c (fun g hg => ⟨fun hm => ?_, (hG g hg).2.2.2⟩), h.c.trans c (fun g hg => .inl (List.mem_append_left _ (hG g hg).1)), h.f⟩
 obtain ⟨_, h2, h3, _⟩ := hG g hg
 rcases h.f g hm with h4 | h4
 ·exact h3 h4
 ·omega
theorem Acc.updM (h : Acc [] X w S w1 X1) : UpdM X w w1 S := ⟨X1, h.e, h.dm, by simpa using h.c, h.f⟩
theorem Acc.read (h : Acc F X w S w1 X1) (s : ByteArray) (hs : s.size ≤ maxLen) :
  Calls Tryz.prog 125 #[.pointer (some ⟨X.d, 0, none⟩), .string s] w1 fun e w' => ∃ A c, e = .returned (.tuple #[.slice A (S.read s.data.toList).1.length c, .int .i64 ((S.read s.data.toList).2 : Int)]) ∧
   w'.ownsRow w1.heap.size 5 1 (.slice A (S.read s.data.toList).1.length c) (S.read s.data.toList).1.length (bts (S.read s.data.toList).1) ∧ Below w1.heap.size w1 w' := by
 rw [← h.e]
 exact read_any X1 S s hs h.dm.wf w1 h.dm.dk
theorem Acc.write (h : Acc F X w S w1 X1) (s : ByteArray) (hs : s.size ≤ maxLen) (A : Option Addr) (m c : Nat) (b : List UInt8) (hm : m ≤ 1099511627776) (hl : S.load ≤ 1099511627776) (hr : Row w1.heap.size w1 A m 1 (bts b)) (hA : ∀ a, A = some a → a.block ∉ X1.foot) :
  Calls Tryz.prog 199 #[.pointer (some ⟨X.d, 0, none⟩), .string s, .slice A m c] w1 fun e w' => e = .returned (.int .i64 ((S.write s.data.toList b).2 : Int)) ∧ ∃ X2, Acc F X w (S.write s.data.toList b).1 w' X2 := by
 rw [← h.e]
 exact (write_any X1 S s hs A m c b hm hl w1 h.dm hr hA).mono fun e w' ⟨h1, h2⟩ => ⟨h1, h.step h2⟩
theorem Acc.append (h : Acc F X w S w1 X1) (s : ByteArray) (hs : s.size ≤ maxLen) (A : Option Addr) (m c : Nat) (b : List UInt8) (hm : m ≤ 1099511627776) (hr : Row w1.heap.size w1 A m 1 (bts b)) (hA : ∀ a, A = some a → a.block ∉ X1.foot) :
  Calls Tryz.prog 84 #[.pointer (some ⟨X.d, 0, none⟩), .string s, .slice A m c] w1 fun e w' => e = .returned (.int .i64 ((S.append s.data.toList b).2 : Int)) ∧ ∃ X2, Acc F X w (S.append s.data.toList b).1 w' X2 := by
 rw [← h.e]
 exact (append_any X1 S s hs A m c b hm h.dm.wf w1 h.dm.dk hr (fun a ha e => hA a ha (by rw [e]; exact mem_foot.2 (.inl rfl)))).mono fun e w' ⟨h1, h2⟩ => ⟨h1, h.step (h.dm.upd (h.dm.wf.append _ _) h2)⟩
theorem Acc.create (h : Acc F X w S w1 X1) (s : ByteArray) (hs : s.size ≤ maxLen) (hl : S.load ≤ 1099511627776) :
  Calls Tryz.prog 172 #[.pointer (some ⟨X.d, 0, none⟩), .string s] w1 fun e w' => e = .returned (.int .i64 ((S.create s.data.toList).2 : Int)) ∧ ∃ X2, Acc F X w (S.create s.data.toList).1 w' X2 := by
 rw [← h.e]
 exact (create_any X1 S s hs h.dm.wf hl w1 h.dm.dk).mono fun e w' ⟨h1, h2⟩ => ⟨h1, h.step (h.dm.upd (h.dm.wf.create _) h2)⟩
theorem Acc.sync (h : Acc F X w S w1 X1) (s : ByteArray) (hs : s.size ≤ maxLen) :
  Calls Tryz.prog 173 #[.pointer (some ⟨X.d, 0, none⟩), .string s] w1 fun e w' => e = .returned (.int .i64 ((S.sync s.data.toList).2 : Int)) ∧ ∃ X2, Acc F X w (S.sync s.data.toList).1 w' X2 := by
 rw [← h.e]
 exact (sync_any X1 S s hs h.dm.wf w1 h.dm.dk).mono fun e w' ⟨h1, h2⟩ => ⟨h1, h.step (h.dm.upd (h.dm.wf.sync _) h2)⟩
theorem Acc.remove (h : Acc F X w S w1 X1) (s : ByteArray) (hs : s.size ≤ maxLen) (hl : S.load ≤ 1099511627776) :
  Calls Tryz.prog 100 #[.pointer (some ⟨X.d, 0, none⟩), .string s] w1 fun e w' => e = .returned (.int .i64 ((S.remove s.data.toList).2 : Int)) ∧ ∃ X2, Acc F X w (S.remove s.data.toList).1 w' X2 := by
 rw [← h.e]
 exact (remove_any X1 S s hs h.dm.wf hl w1 h.dm.dk).mono fun e w' ⟨h1, h2⟩ => ⟨h1, h.step (h.dm.upd (h.dm.wf.remove _) h2)⟩
theorem Acc.rename (h : Acc F X w S w1 X1) (s u : ByteArray) (hs : s.size ≤ maxLen) (hu : u.size ≤ maxLen) (hl : S.load ≤ 1099511627776) :
  Calls Tryz.prog 201 #[.pointer (some ⟨X.d, 0, none⟩), .string s, .string u] w1 fun e w' => e = .returned (.int .i64 ((S.rename s.data.toList u.data.toList).2 : Int)) ∧ ∃ X2, Acc F X w (S.rename s.data.toList u.data.toList).1 w' X2 := by
 rw [← h.e]
 exact (rename_any X1 S s u hs hu h.dm.wf hl w1 h.dm.dk).mono fun e w' ⟨h1, h2⟩ => ⟨h1, h.step (h.dm.upd (h.dm.wf.rename _ _) h2)⟩
theorem Acc.syncDir (h : Acc F X w S w1 X1) :
  Calls Tryz.prog 174 #[.pointer (some ⟨X.d, 0, none⟩)] w1 fun e w' => e = .returned (.int .i64 ((S.syncDir).2 : Int)) ∧ ∃ X2, Acc F X w (S.syncDir).1 w' X2 := by
 rw [← h.e]
 exact (syncDir_any X1 S h.dm.wf w1 h.dm.dk).mono fun e w' ⟨h1, h2⟩ => ⟨h1, h.step (h.dm.upd h.dm.wf.syncDir h2)⟩
theorem Acc.list (h : Acc F X w S w1 X1) :
  Calls Tryz.prog 123 #[.pointer (some ⟨X.d, 0, none⟩)] w1 fun e w' => ∃ A c, e = .returned (.slice A S.list.length c) ∧ w'.ownsRow w1.heap.size 9 1 (.slice A S.list.length c) S.list.length (S.list.map Go.Proofs.encStr) ∧ Below w1.heap.size w1 w' := by
 rw [← h.e]
 exact dlist_any X1 S h.dm.wf w1 h.dm.dk
theorem Acc.greatest (h : Acc F X w S w1 X1) (k : ByteArray) (hk : k.size ≤ 1000) :
  Calls Tryz.prog 144 #[.pointer (some ⟨X.d, 0, none⟩), .string k] w1 fun e w' => e = .returned (.int .i64 (Mn.greatest S.list k.data.toList)) ∧ Below w1.heap.size w1 w' := by
 rw [← h.e]
 exact greatest_any X1 S k hk w1 h.dm
def Ms.cells (M : Ms) (xd : Nat) : List Value := [.pointer (some ⟨xd, 0, none⟩), .string (str M.name), .int .i64 (M.v.g : Int), .slice none 0 0, .int .u64 (M.v.f : Int), .int .u64 (M.v.c : Int), .int .u64 (M.v.a : Int), .int .u64 (M.v.l : Int), .int .i64 (M.count : Int), .int .u32 (if M.broken = true then 1 else 0), .int .i32 0, .int .u32 0, .bool M.broken]
abbrev MK (w : World) (m xd : Nat) (M : Ms) : Prop := BoxO w 209 m (M.cells xd)
theorem break_any (m xd : Nat) (M : Ms) (w : World) (h : MK w m xd M) : Calls Tryz.prog 202 #[.pointer (some ⟨m, 0, none⟩)] w fun e w' => e = .returned (.tuple #[]) ∧ MK w' m xd { M with broken := true } ∧ Chg [m] w w' := by
 have hmf : ∀ (fn : Fn) (first cap : Array Value) (w : World), (Instr.makeFunc fn first cap).run Tryz.prog w = .ok (.func fn first cap) w := fun _ _ _ _ => rfl
 have hlt := h.lt
 have h1 : MK (w.alloc (.cells #[.pointer (some ⟨m, 0, none⟩)] 70)) m xd M := BoxO.alloc h _
 have hp : (w.alloc (.cells #[.pointer (some ⟨m, 0, none⟩)] 70)).cell? ⟨w.heap.size, 0, none⟩ = some (.pointer (some ⟨m, 0, none⟩)) := by simp
 have hc1 : Chg [m] w (w.alloc (.cells #[.pointer (some ⟨m, 0, none⟩)] 70)) := (Chg.refl [m] w).alloc _
 generalize hV : w.alloc (.cells #[.pointer (some ⟨m, 0, none⟩)] 70) = V at *
 have c9 := h1.cell 9
 have c10 := h1.cell 10
 have c12 := h1.cell 12
 simp only [Ms.cells, gE0, gE1] at c9 c10 c12
 cases hb : M.broken with
 | false =>
  rw [hb] at c9 c12
  simp only [Bool.false_eq_true, if_false] at c9
  have hdo := Once.do_first m ⟨w.heap.size, 0, none⟩ (by simp; omega) _ V hp c9 c10 c12 (h1.free 9) (h1.free 10) (h1.free 12)
  have hbx := ((((h1.store 10 (.int .i32 1)).store 12 (.bool true)).drew.store 9 (.int .u32 1)).store 10 (.int .i32 0))
  have hcc : Chg [m] V ((((V.setCell ⟨m, 10, none⟩ (.int .i32 1)).setCell ⟨m, 12, none⟩ (.bool true)).drew.setCell ⟨m, 9, none⟩ (.int .u32 1)).setCell ⟨m, 10, none⟩ (.int .i32 0)) := (((((Chg.refl [m] V).setCell _ (.inl (by simp))).setCell _ (.inl (by simp))).drew).setCell _ (.inl (by simp))).setCell _ (.inl (by simp))
  have hres : MK ((((V.setCell ⟨m, 10, none⟩ (.int .i32 1)).setCell ⟨m, 12, none⟩ (.bool true)).drew.setCell ⟨m, 9, none⟩ (.int .u32 1)).setCell ⟨m, 10, none⟩ (.int .i32 0)) m xd { M with broken := true } := hbx
  have HR := Lib.hid (And.intro hres (hc1.trans hcc (fun g hg => .inl hg)))
  clear hres hcc hbx hb
  go_enter Tryz.func202, Tryz.ntmps202
  go_wp2_with fail
  refine hdo.mono ?_
  rintro e w2 ⟨rfl, rfl⟩
  go_wp2
  exact bodyPost_end (v := .tuple #[]) (by simp [results, go_sem]) rfl ⟨rfl, HR.out⟩
 | true =>
  rw [hb] at c9
  simp only [if_true] at c9
  have hdo := Once.do_done ⟨m, 9, none⟩ 1 (by omega) (.func (.func 245) #[] #[.pointer (some ⟨w.heap.size, 0, none⟩)]) V c9
  have hres : MK V m xd { M with broken := true } := by
   have e : ({ M with broken := true } : Ms) = M := by cases M; simp at hb; simp [hb]
   rw [e]
   exact h1
  have HR := Lib.hid (And.intro hres hc1)
  clear hres hb
  go_enter Tryz.func202, Tryz.ntmps202
  go_wp2_with fail
  refine hdo.mono ?_
  rintro e w2 ⟨rfl, hw2⟩
  obtain rfl := hw2.symm
  go_wp2
  exact bodyPost_end (v := .tuple #[]) (by simp [results, go_sem]) rfl ⟨rfl, HR.out⟩
end
section
open Go Go.RowKit Go.Lib Go.Shelf
theorem batch_any (L : Option Addr) (m d : Nat) (l : List It) (w : World) (h0 : 0 < m) (hm : m ≤ 1000) (hq : Row w.heap.size w L m 5 (itc l)) (hk : ∀ x ∈ l, x.ok = true ∧ x.fit) :
  Calls Tryz.prog 83 #[.slice L m d] w fun e w' => ∃ A' M c', e = .returned (.tuple #[.slice A' M c', .int .i64 0]) ∧
   w'.ownsRow w.heap.size 5 1 (.slice A' M c') M (bts (Lg.batch l)) ∧ M ≤ c' ∧ c' ≤ maxLen ∧ Below w.heap.size w w' := by
 have hmn := hq.itlen
 have hib := ibytes_any none 0 0 [] L m d l w (by omega) (by omega) Row.nil_ hq hk
 rw [List.nil_append] at hib
 have hbl := It.bytes_len l
 have hm0 : ((m : Int) == 0) = false := by simp; omega
 have HIB := Lib.hid hib
 clear hib hk
 go_enter Tryz.func83, Tryz.ntmps83
 go_wp2_with fail
 refine HIB.out.mono ?_
 rintro e w1 ⟨A1, M1, c1, rfl, ho1, hc1, hm1, hb1⟩
 have hML : M1 = (It.bytes l).length := by
  have := ho1.1
  rw [bts_length] at this
  omega
 have hM6 : M1 ≤ 60000 := by omega
 have hM6i : ((60000 : Int) < (M1 : Int)) = False := eq_false (by omega)
 have hfp := fput_any none 0 0 [] 1 A1 M1 c1 (It.bytes l) w1 (by omega) (by omega) (by omega) Row.nil_ (by omega) (by omega) hM6 hc1 hm1 (Row.own ho1)
 rw [List.nil_append] at hfp
 have HFP := Lib.hid hfp
 clear hfp ho1 HIB hML
 go_wp2_with fail
 refine HFP.out.mono ?_
 rintro e w2 ⟨A2, M2, c2, rfl, ho2, hc2, hm2, hb2⟩
 have hob := own_base ho2 hb1.size
 have hbz := later_ hb1 hb2
 have HF := Lib.hid (And.intro hob (And.intro hc2 (And.intro hm2 hbz)))
 clear ho2 hob hbz HFP
 go_wp2
 go_ret2
 exact ⟨A2, M2, c2, rfl, HF.out⟩
abbrev LgAt (w : World) (g xd : Nat) (nm : List UInt8) (sz ct : Nat) : Prop := BoxO w 147 g [.pointer (some ⟨xd, 0, none⟩), .string (str nm), .int .i64 (sz : Int), .int .i64 (ct : Int), .bool false]
theorem UpdM.drew {X : Dw} {S : Sd} {w w' : World} (h : UpdM X w.drew w' S) : UpdM X w w' S := by
 obtain ⟨X2, a, b, c, d⟩ := h
 exact ⟨X2, a, b, ((Chg.refl X.foot w).drew).trans c (fun g hg => .inl hg), d⟩
theorem LgAt.upd {X : Dw} {S : Sd} {w w' : World} {g xd : Nat} {nm : List UInt8} {sz ct : Nat} (h : LgAt w g xd nm sz ct) (hu : UpdM X w w' S) (hg : g ∉ X.foot) : LgAt w' g xd nm sz ct := by
 obtain ⟨X2, a, b, c, d⟩ := hu
 exact h.chg c hg
theorem str_data (l : List UInt8) : (str l).data.toList = l := by simp [str]
theorem lsync_any (X : Dw) (S : Sd) (g : Nat) (nm : List UInt8) (sz ct : Nat) (w : World) (hnm : nm.length ≤ 1000) (h : Dm w X S) (hg : LgAt w g X.d nm sz ct) (hgX : g ∉ X.foot) :
  Calls Tryz.prog 128 #[.pointer (some ⟨g, 0, none⟩)] w fun e w' => e = .returned (.int .i64 ((S.sync nm).2 : Int)) ∧ UpdM X w w' (S.sync nm).1 := by
 have c0 := hg.cell 0
 have c1 := hg.cell 1
 have c4 := hg.cell 4
 simp only [gE0, gE1] at c0 c1 c4
 have hs := (Acc.start (F := []) (h.below (w' := w.drew) (below_drew (Below.refl _ _)))).sync (str nm) (by rw [str_size]; unfold maxLen; omega)
 rw [str_data] at hs
 have hs2 : Calls Tryz.prog 173 #[.pointer (some ⟨X.d, 0, none⟩), .string (str nm)] w.drew fun e w' => e = .returned (.int .i64 ((S.sync nm).2 : Int)) ∧ UpdM X w w' (S.sync nm).1 := hs.mono fun e w' ⟨h1, X2, h2⟩ => ⟨h1, UpdM.drew h2.updM⟩
 generalize (S.sync nm).2 = er at *
 have HS := Lib.hid hs2
 have HG := Lib.hid hg
 clear hs hs2 hg h
 go_enter Tryz.func128, Tryz.ntmps128
 go_wp2_with fail
 refine wp_region_held_drew (S := fun w' => LgAt w' g X.d nm sz ct) rfl HG.out.drew (fun hSw => ?_)
 refine wpT (i := 0) (v := ?vsy0) ?hsy0 hSw ?ksy0
 case hsy0 => (intro w hSw; (have c0 := hSw.cell 0; have c1 := hSw.cell 1; simp only [gE0, gE1] at c0 c1); go_simp; try (with_reducible rfl))
 go_simp
 refine wpT (i := 1) (v := ?vsy1) ?hsy1 hSw ?ksy1
 case hsy1 => (intro w hSw; (have c0 := hSw.cell 0; have c1 := hSw.cell 1; simp only [gE0, gE1] at c0 c1); go_simp; try (with_reducible rfl))
 go_simp
 refine wpT (i := 2) (v := ?vsy2) ?hsy2 hSw ?ksy2
 case hsy2 => (intro w hSw; (have c0 := hSw.cell 0; have c1 := hSw.cell 1; simp only [gE0, gE1] at c0 c1); go_simp; try (with_reducible rfl))
 go_simp
 refine wpT (i := 3) (v := ?vsy3) ?hsy3 hSw ?ksy3
 case hsy3 => (intro w hSw; (have c0 := hSw.cell 0; have c1 := hSw.cell 1; simp only [gE0, gE1] at c0 c1); go_simp; try (with_reducible rfl))
 go_simp
 refine wpT (i := 4) (v := ?vsy4) ?hsy4 hSw ?ksy4
 case hsy4 => (intro w hSw; (have c0 := hSw.cell 0; have c1 := hSw.cell 1; simp only [gE0, gE1] at c0 c1); go_simp; try (with_reducible rfl))
 go_simp
 refine wpT (i := 5) (v := ?vsy5) ?hsy5 hSw ?ksy5
 case hsy5 => (intro w hSw; (have c0 := hSw.cell 0; have c1 := hSw.cell 1; simp only [gE0, gE1] at c0 c1); go_simp; try (with_reducible rfl))
 go_simp
 refine wpT (i := 6) (v := ?vsy6) ?hsy6 hSw ?ksy6
 case hsy6 => (intro w hSw; (have c0 := hSw.cell 0; have c1 := hSw.cell 1; simp only [gE0, gE1] at c0 c1); go_simp; try (with_reducible rfl))
 go_simp
 refine wpT (i := 7) (v := ?vsy7) ?hsy7 hSw ?ksy7
 case hsy7 => (intro w hSw; (have c0 := hSw.cell 0; have c1 := hSw.cell 1; simp only [gE0, gE1] at c0 c1); go_simp; try (with_reducible rfl))
 go_simp
 refine wpAnyH_ready (rs := [8]) (by kernel_rfl) (by simp) ?_
 refine AllReadyH.cons rfl (fun K hK => ?_) AllReadyH.nil
 go_simp
 with_reducible refine HS.out.mono ?_
 rintro e w3 ⟨rfl, hu⟩
 go_simp
 refine hK.out _ _ (HG.out.upd hu hgX) (fun hSn => ?_)
 clear hK K hSw
 have hSw := hSn
 clear hSn
 go_simp
 refine wpT (i := 9) (v := ?vsy9) ?hsy9 hSw ?ksy9
 case hsy9 => (intro w hSw; (have c0 := hSw.cell 0; have c1 := hSw.cell 1; simp only [gE0, gE1] at c0 c1); go_simp; try (with_reducible rfl))
 go_simp
 refine wpAnyH_done (by kernel_rfl) ?_ _
 clear hSw
 go_wp2
 go_ret
 exact ⟨rfl, hu⟩
def LnPost (X : Dw) (w : World) (nm : List UInt8) (R : Sd × Nat) (e : Ending) (w' : World) : Prop := ∃ X', X'.d = X.d ∧ Dm w' X' R.1 ∧ Chg X.foot w w' ∧ (∀ g ∈ X'.foot, g ∈ X.foot ∨ w.heap.size ≤ g) ∧
 ((R.2 ≠ 0 ∧ e = .returned (.tuple #[.pointer none, .int .i64 (R.2 : Int)])) ∨ (R.2 = 0 ∧ ∃ g, e = .returned (.tuple #[.pointer (some ⟨g, 0, none⟩), .int .i64 0]) ∧ LgAt w' g X.d nm 0 0 ∧ w.heap.size ≤ g ∧ g ∉ X'.foot))
theorem lnew_any (X : Dw) (S : Sd) (nm : List UInt8) (w : World) (hnm : nm.length ≤ 1000) (hld : S.load ≤ 1099511627776) (h : Dm w X S) :
  Calls Tryz.prog 127 #[.pointer (some ⟨X.d, 0, none⟩), .string (str nm)] w (LnPost X w nm (S.create nm)) := by
 have hs := (Acc.start (F := []) h).create (str nm) (by rw [str_size]; unfold maxLen; omega) hld
 rw [str_data] at hs
 obtain ⟨R, hR⟩ : ∃ R, R = S.create nm := ⟨_, rfl⟩
 rw [← hR] at hs ⊢
 obtain ⟨S1, er⟩ := R
 simp only at hs
 have HS := Lib.hid hs
 clear hs h hR
 go_enter Tryz.func127, Tryz.ntmps127
 go_wp2_with fail
 refine HS.out.mono ?_
 rintro e w1 ⟨rfl, X2, h2⟩
 have H2 := Lib.hid h2
 clear h2 HS
 by_cases he : er = 0
 ·subst he
  go_wp2
  go_ret2
  have hc := H2.out.c
  have hlt := H2.out.dm.dk.lt
  have hsz := hc.size
  have hba := (Below.refl w1.heap.size w1).alloc (Nat.le_refl _) (.cells #[.pointer (some ⟨X.d, 0, none⟩), .string (str nm), .int .i64 0, .int .i64 0, .bool false] 147)
  refine ⟨X2, H2.out.e, H2.out.dm.below hba, by simpa using hc.alloc (.cells #[.pointer (some ⟨X.d, 0, none⟩), .string (str nm), .int .i64 0, .int .i64 0, .bool false] 147), H2.out.f, .inr ⟨rfl, w1.heap.size, rfl, BoxO.new _ _ _, hsz, fun hm => ?_⟩⟩
  have := hlt _ hm
  omega
 ·have he3 : ((er : Int) == 0) = false := by simp; omega
  go_wp2
  go_ret2
  exact ⟨X2, H2.out.e, H2.out.dm, by simpa using H2.out.c, H2.out.f, .inl ⟨he, rfl⟩⟩
def LpPost (X : Dw) (g : Nat) (w : World) (nm : List UInt8) (sz ct len : Nat) (R : Sd × Nat) (e : Ending) (w' : World) : Prop := e = .returned (.int .i64 (R.2 : Int)) ∧ ∃ X', X'.d = X.d ∧ Dm w' X' R.1 ∧ Chg (g :: X.foot) w w' ∧ (∀ g ∈ X'.foot, g ∈ X.foot ∨ w.heap.size ≤ g) ∧
 (if R.2 = 0 then LgAt w' g X.d nm (sz + len) (ct + 1) else LgAt w' g X.d nm sz ct)
theorem lput_any (X : Dw) (S : Sd) (g : Nat) (nm : List UInt8) (sz ct : Nat) (L : Option Addr) (m d : Nat) (l : List It) (w : World) (hnm : nm.length ≤ 1000) (h : Dm w X S) (hg : LgAt w g X.d nm sz ct) (hgX : g ∉ X.foot) (hgN : NG ≤ g)
  (hsz : sz ≤ 1000000000000) (hct : ct ≤ 1000000000) (h0 : 0 < m) (hm : m ≤ 1000) (hq : Row w.heap.size w L m 5 (itc l)) (hk : ∀ x ∈ l, x.ok = true ∧ x.fit) :
  Calls Tryz.prog 30 #[.pointer (some ⟨g, 0, none⟩), .slice L m d] w (LpPost X g w nm sz ct (Lg.batch l).length (S.append nm (Lg.batch l))) := by
 have c4 := hg.cell 4
 simp only [gE0, gE1] at c4
 have hb := batch_any L m d l w h0 hm hq hk
 have hbl := Lg.batch_len l
 have hmn := hq.itlen
 have hgl := hg.lt
 have HB := Lib.hid hb
 have HD := Lib.hid h
 have HG := Lib.hid hg
 obtain ⟨R, hR⟩ : ∃ R, R = S.append nm (Lg.batch l) := ⟨_, rfl⟩
 obtain ⟨len, hlen⟩ : ∃ len, len = (Lg.batch l).length := ⟨_, rfl⟩
 rw [← hR, ← hlen]
 obtain ⟨S1, er⟩ := R
 have HR := Lib.hid hR
 have HLEN := Lib.hid hlen
 rw [← hlen] at hbl
 clear hb h hg hk hq hR hlen
 go_enter Tryz.func30, Tryz.ntmps30
 go_wp2_with fail
 refine HB.out.mono ?_
 rintro e w1 ⟨A1, M1, c1, rfl, ho1, hc1, hm1, hb1⟩
 have hML : M1 = len := by
  have := ho1.1
  rw [bts_length, ← HLEN.out] at this
  omega
 obtain ⟨A2, c2, hv, hqc, hqm, hlow⟩ := own_form ho1
 injection hv with e1 e2 e3
 subst e1 e3
 have hd1 := HD.out.below hb1
 have hg1 := HG.out.below hb1
 have hA : ∀ a, A1 = some a → a.block ∉ X.foot := fun a ha hm => by
  have h2 := (hlow a ha).1
  have h3 := HD.out.dk.lt _ hm
  omega
 have hap := (Acc.start (F := []) (hd1.below (w' := w1.drew) (below_drew (Below.refl _ _)))).append (str nm) (by rw [str_size]; unfold maxLen; omega) A1 M1 c1 (Lg.batch l) (by omega) (Row.own ho1) hA
 rw [str_data] at hap
 rw [← HR.out] at hap
 have hap2 : Calls Tryz.prog 84 #[.pointer (some ⟨X.d, 0, none⟩), .string (str nm), .slice A1 M1 c1] w1.drew fun e w' => e = .returned (.int .i64 (er : Int)) ∧ UpdM X w1 w' S1 := hap.mono fun e w' ⟨h1, X2, h2⟩ => ⟨h1, UpdM.drew h2.updM⟩
 subst hML
 have HG1 := Lib.hid hg1
 have HAP := Lib.hid hap2
 have HB1 := Lib.hid hb1
 clear hap hap2 hg1 hd1 ho1 hb1 hA hlow hqc hqm HB
 go_wp2_with fail
 refine wp_region_held_drew (S := fun w' => LgAt w' g X.d nm sz ct) rfl HG1.out.drew (fun hSw => ?_)
 refine wpT (i := 0) (v := ?vpu0) ?hpu0 hSw ?kpu0
 case hpu0 => (intro w hSw; (have c0 := hSw.cell 0; have c1 := hSw.cell 1; simp only [gE0, gE1] at c0 c1); go_simp; try (with_reducible rfl))
 go_simp
 refine wpT (i := 1) (v := ?vpu1) ?hpu1 hSw ?kpu1
 case hpu1 => (intro w hSw; (have c0 := hSw.cell 0; have c1 := hSw.cell 1; simp only [gE0, gE1] at c0 c1); go_simp; try (with_reducible rfl))
 go_simp
 refine wpT (i := 2) (v := ?vpu2) ?hpu2 hSw ?kpu2
 case hpu2 => (intro w hSw; (have c0 := hSw.cell 0; have c1 := hSw.cell 1; simp only [gE0, gE1] at c0 c1); go_simp; try (with_reducible rfl))
 go_simp
 refine wpT (i := 3) (v := ?vpu3) ?hpu3 hSw ?kpu3
 case hpu3 => (intro w hSw; (have c0 := hSw.cell 0; have c1 := hSw.cell 1; simp only [gE0, gE1] at c0 c1); go_simp; try (with_reducible rfl))
 go_simp
 refine wpT (i := 4) (v := ?vpu4) ?hpu4 hSw ?kpu4
 case hpu4 => (intro w hSw; (have c0 := hSw.cell 0; have c1 := hSw.cell 1; simp only [gE0, gE1] at c0 c1); go_simp; try (with_reducible rfl))
 go_simp
 refine wpT (i := 5) (v := ?vpu5) ?hpu5 hSw ?kpu5
 case hpu5 => (intro w hSw; (have c0 := hSw.cell 0; have c1 := hSw.cell 1; simp only [gE0, gE1] at c0 c1); go_simp; try (with_reducible rfl))
 go_simp
 refine wpT (i := 6) (v := ?vpu6) ?hpu6 hSw ?kpu6
 case hpu6 => (intro w hSw; (have c0 := hSw.cell 0; have c1 := hSw.cell 1; simp only [gE0, gE1] at c0 c1); go_simp; try (with_reducible rfl))
 go_simp
 refine wpT (i := 7) (v := ?vpu7) ?hpu7 hSw ?kpu7
 case hpu7 => (intro w hSw; (have c0 := hSw.cell 0; have c1 := hSw.cell 1; simp only [gE0, gE1] at c0 c1); go_simp; try (with_reducible rfl))
 go_simp
 refine wpT (i := 8) (v := ?vpu8) ?hpu8 hSw ?kpu8
 case hpu8 => (intro w hSw; (have c0 := hSw.cell 0; have c1 := hSw.cell 1; simp only [gE0, gE1] at c0 c1); go_simp; try (with_reducible rfl))
 go_simp
 refine wpAnyH_ready (rs := [9]) (by kernel_rfl) (by simp) ?_
 refine AllReadyH.cons rfl (fun K hK => ?_) AllReadyH.nil
 go_simp
 with_reducible refine HAP.out.mono ?_
 rintro e w3 ⟨rfl, hu⟩
 go_simp
 refine hK.out _ _ (LgAt.upd HG1.out hu hgX) (fun hSn => ?_)
 clear hK K hSw
 have hSw := hSn
 clear hSn
 go_simp
 refine wpT (i := 10) (v := ?vpu10) ?hpu10 hSw ?kpu10
 case hpu10 => (intro w hSw; (have c0 := hSw.cell 0; have c1 := hSw.cell 1; simp only [gE0, gE1] at c0 c1); go_simp; try (with_reducible rfl))
 go_simp
 refine wpAnyH_done (by kernel_rfl) ?_ _
 have hg3 := hSw
 clear hSw HAP
 have hcs : ∃ X', X'.d = X.d ∧ Dm w3 X' S1 ∧ Chg X.foot w w3 ∧ ∀ g ∈ X'.foot, g ∈ X.foot ∨ w.heap.size ≤ g := by
  obtain ⟨X2, q1, q2, q3, q4⟩ := hu
  refine ⟨X2, q1, q2, (Chg.of_below HB1.out X.foot).trans q3 (fun g hg => .inl hg), fun g hg => ?_⟩
  rcases q4 g hg with h1 | h1
  ·exact .inl h1
  ·exact .inr (Nat.le_trans HB1.out.size h1)
 have HC := Lib.hid hcs
 clear hcs hu
 by_cases he : er = 0
 ·subst he
  have d2 := hg3.cell 2
  have d3 := hg3.cell 3
  have f2 := hg3.free 2
  have f3 := hg3.free 3
  simp only [gE0, gE1] at d2 d3
  have hw2 : IntKind.i64.wrap ((sz : Int) + (M1 : Int)) = ((sz + M1 : Nat) : Int) := by rw [IntWalk.i64_in _ (by omega)]; omega
  have hg4 := hg3.store 2 (.int .i64 ((sz + M1 : Nat) : Int))
  have d34 := hg4.cell 3
  simp only [List.set_cons_zero, List.set_cons_succ, gE0, gE1] at d34 hg4
  have had := aiadd_any g 3 (ct : Int) (w3.setCell ⟨g, 2, none⟩ (.int .i64 ((sz + M1 : Nat) : Int))) (by omega) (by omega) d34 (hg4.free 3)
  have hg5 := hg4.store 3 (.int .i64 ((ct : Int) + 1))
  simp only [List.set_cons_zero, List.set_cons_succ] at hg5
  have hcg : Chg [g] w3 ((w3.setCell ⟨g, 2, none⟩ (.int .i64 ((sz + M1 : Nat) : Int))).setCell ⟨g, 3, none⟩ (.int .i64 ((ct : Int) + 1))) := ((Chg.refl _ w3).setCell _ (.inl (by simp))).setCell _ (.inl (by simp))
  have hfin : LpPost X g w nm sz ct M1 (S1, 0) (.returned (.int .i64 0)) ((w3.setCell ⟨g, 2, none⟩ (.int .i64 ((sz + M1 : Nat) : Int))).setCell ⟨g, 3, none⟩ (.int .i64 ((ct : Int) + 1))) := by
   obtain ⟨X2, q1, q2, q3, q4⟩ := HC.out
   have hgX2 : g ∉ X2.foot := fun hm => by
    rcases q4 g hm with h1 | h1
    ·exact hgX h1
    ·omega
   refine ⟨rfl, X2, q1, q2.chg hcg (fun x hx => by rw [List.mem_singleton.1 hx]; exact ⟨hgX2, hgN⟩), (q3.mono (fun x hx => .inl (List.mem_cons_of_mem _ hx))).trans hcg (fun x hx => .inl (by rw [List.mem_singleton.1 hx]; exact List.mem_cons_self)), q4, ?_⟩
   rw [if_pos rfl]
   exact hg5
  have HAD := Lib.hid had
  have HFIN := Lib.hid hfin
  clear had hfin hcg hg5 hg4 hg3 d34 HC
  go_wp2_with fail
  refine HAD.out.mono ?_
  rintro e w4 ⟨rfl, rfl⟩
  go_wp2
  go_ret
  exact HFIN.out
 ·have he3 : ((er : Int) == 0) = false := by simp; omega
  have hfin : LpPost X g w nm sz ct M1 (S1, er) (.returned (.int .i64 (er : Int))) w3 := by
   obtain ⟨X2, q1, q2, q3, q4⟩ := HC.out
   refine ⟨rfl, X2, q1, q2, q3.mono (fun x hx => .inl (List.mem_cons_of_mem _ hx)), q4, ?_⟩
   rw [if_neg he]
   exact hg3
  have HFIN := Lib.hid hfin
  clear hfin hg3 HC
  go_wp2
  go_ret
  exact HFIN.out
end
end Go.Proofs.YtdkjoigpahafmaaGreatDoor
namespace Go.Proofs.YtdkjoigpahafmaaGreatDoor
open Go Go.RowKit Go.Shelf
end Go.Proofs.YtdkjoigpahafmaaGreatDoor
namespace Go.Proofs
open Go Go.RowKit Go.Shelf
end Go.Proofs
namespace Go.Proofs.YtdkjoigpahafmaaGreatDoor
open Go Go.RowKit Go.Shelf
def IRows (B : Nat) (w : World) (P : Option Addr) (n : Nat) (ls : List (List It)) : Prop :=
 ∃ vs, Row B w P n 1 vs ∧ ls.length = n ∧ ∀ i (h : i < ls.length), ∃ A k c, vs[i]? = some (.slice A k c) ∧ k ≤ c ∧ c ≤ maxLen ∧ Row B w A k 5 (itc ls[i])
theorem IRows.at_ {B : Nat} {w : World} {P : Option Addr} {n : Nat} {ls : List (List It)} (h : IRows B w P n ls) {i : Nat} (hi : i < n) :
  ∃ a A k c, ∃ hl : i < ls.length, P = some a ∧ a.block < B ∧ w.cell? (a.add i) = some (.slice A k c) ∧ k ≤ c ∧ c ≤ maxLen ∧ Row B w A k 5 (itc ls[i]) := by
 obtain ⟨vs, hr, hl, hf⟩ := h
 obtain ⟨a, v, e, b, hv, hc⟩ := hr.at1 hi
 obtain ⟨A, k, c, h1, h2, h3, h4⟩ := hf i (by omega)
 rw [h1] at hv
 injection hv with hv
 exact ⟨a, A, k, c, by omega, e, b, by rw [hc, ← hv], h2, h3, h4⟩
theorem IRows.below {B : Nat} {w w' : World} {P : Option Addr} {n : Nat} {ls : List (List It)} (h : IRows B w P n ls) (hb : Below B w w') : IRows B w' P n ls := by
 obtain ⟨vs, hr, hl, hf⟩ := h
 exact ⟨vs, hr.below hb, hl, fun i hi => let ⟨A, k, c, h1, h2, h3, h4⟩ := hf i hi; ⟨A, k, c, h1, h2, h3, h4.below hb⟩⟩
theorem IRows.up {B B' : Nat} {w : World} {P : Option Addr} {n : Nat} {ls : List (List It)} (h : IRows B w P n ls) (hb : B ≤ B') : IRows B' w P n ls := by
 obtain ⟨vs, hr, hl, hf⟩ := h
 exact ⟨vs, hr.up hb, hl, fun i hi => let ⟨A, k, c, h1, h2, h3, h4⟩ := hf i hi; ⟨A, k, c, h1, h2, h3, h4.up hb⟩⟩
theorem IRows.len {B : Nat} {w : World} {P : Option Addr} {n : Nat} {ls : List (List It)} (h : IRows B w P n ls) : ls.length = n := by
 obtain ⟨_, _, hl, _⟩ := h
 exact hl
end Go.Proofs.YtdkjoigpahafmaaGreatDoor
namespace Go.Proofs.YtdkjoigpahafmaaGreatDoor
section
open Go Go.RowKit Go.Lib Go.Shelf
attribute [local go_sem] Oper.semAt_some
abbrev Ck (m len : Nat) : Type := { x : Nat // x * m < len }
def Ck.len {m len : Nat} (x : Ck m len) : Nat := min m (len - x.1 * m)
def Ck.val (p : Addr) {m len : Nat} (x : Ck m len) : Value := .slice (some (p.add (x.1 * m * 5))) x.len x.len
def Ck.of (l : List It) {m len : Nat} (x : Ck m len) : List It := (l.drop (x.1 * m)).take m
theorem cut_next {m len k f : Nat} {L : List It} {pre : List (Ck m len)} (hm : 1 ≤ m) (hL : L.length = len) (hk : k * m < len) (h1 : (L.drop (k * m)).length ≤ f) (h2 : pre.map (Ck.of L) ++ Tb.cut m f (L.drop (k * m)) = Tb.cut m len L) :
  ∃ f', (L.drop ((k + 1) * m)).length ≤ f' ∧ (pre ++ [(⟨k, hk⟩ : Ck m len)]).map (Ck.of L) ++ Tb.cut m f' (L.drop ((k + 1) * m)) = Tb.cut m len L := by
 have hkm : (k + 1) * m = k * m + m := Nat.succ_mul k m
 rw [List.length_drop] at h1
 obtain ⟨f', rfl⟩ : ∃ f', f = f' + 1 := ⟨f - 1, by omega⟩
 refine ⟨f', by rw [List.length_drop, hkm]; omega, ?_⟩
 have hne : L.drop (k * m) ≠ [] := fun e => by
  have := congrArg List.length e
  rw [List.length_drop] at this
  simp at this
  omega
 rw [← h2, Tb.cut, if_neg hne, List.drop_drop, hkm, List.map_append, List.append_assoc]
 rfl
theorem chunk1_in (F : Fence) (n : Nat) (h7 : F.fn 176) (hro : F.round = none) (hn : 1 ≤ n) (l Bs Bn : Nat) (Kp : World → World → Prop) (hKc : ∀ W W', Kp W W' → W'.cell? ⟨Bs, 0, none⟩ = W.cell? ⟨Bs, 0, none⟩ ∧ W'.cell? ⟨Bn, 0, none⟩ = W.cell? ⟨Bn, 0, none⟩) (p : Addr) (len cap m : Nat) (L : List It) (hL : L.length = len) (hm : 1 ≤ m) (hm2 : m ≤ 1000) (hlen : len ≤ 100000) (hcap : len ≤ cap) (J Jx : List (Ck m len) → World → Prop)
  (hJd : ∀ pre W, J pre W → J pre W.drew) (hY : ∀ pre x W, J pre W → pre.length * m < len → YieldAt F (n - 1) Tryz.prog l #[Ck.val p x] W fun e W' =>
   (e = .returned (.bool true) ∧ J (pre ++ [x]) W' ∧ Kp W W') ∨ (e = .returned (.bool false) ∧ Jx (pre ++ [x]) W'))
  (W : World) (hBs : W.cell? ⟨Bs, 0, none⟩ = some (.slice (some p) len cap)) (hBn : W.cell? ⟨Bn, 0, none⟩ = some (.int .i64 (m : Int))) (h0 : J [] W) :
  CallsIn F n Tryz.prog 176 #[.func (.yield l) #[] #[], .pointer (some ⟨Bs, 0, none⟩), .pointer (some ⟨Bn, 0, none⟩)] W fun e W' => (∃ v, e = .returned v) ∧
   ((∃ ys, ys.map (Ck.of L) = Tb.cut m len L ∧ J ys W') ∨ (∃ pre, Jx pre W')) := by
 refine callsIn_of_wp Tryz.func176 rfl h7 ?_ hro
 simp only [Tryz.ntmps176, List.size_toArray, List.length_cons, List.length_nil, Nat.reduceAdd, Nat.reduceSub, Array.replicate_succ, Array.replicate_zero, List.push_toArray, List.append_toArray, List.nil_append, List.cons_append]
 gi_wp2
 gi_loopw [4] (fun i wr => ∃ (k f : Nat) (pre : List (Ck m len)), i = .int .i64 ((k * m : Nat) : Int) ∧ k * m ≤ len + m ∧ Hid (pre.length = k ∧ (L.drop (k * m)).length ≤ f ∧ pre.map (Ck.of L) ++ Tb.cut m f (L.drop (k * m)) = Tb.cut m len L) ∧ J pre wr ∧ wr.cell? ⟨Bs, 0, none⟩ = some (.slice (some p) len cap) ∧ wr.cell? ⟨Bn, 0, none⟩ = some (.int .i64 (m : Int)))
  (fun i _ => len - (intOf i).toNat)
 case atStart => exact ⟨0, len, [], by simp, by simp, Lib.hid ⟨rfl, by simp [hL], by simp⟩, h0, hBs, hBn⟩
 case round =>
  obtain ⟨k, f, pre, rfl, hkb, HK, hJs, hs1, hs2⟩ := hrel
  obtain ⟨q, hq⟩ : ∃ q, q = k * m := ⟨_, rfl⟩
  rw [← hq] at HK hkb ⊢
  by_cases hlt : q < len
  ·have hlti : (q : Int) < (len : Int) := by omega
   have hkl : k * m < len := by rw [← hq]; exact hlt
   obtain ⟨e, he⟩ : ∃ e, e = min m (len - q) := ⟨_, rfl⟩
   have he0 : 0 < e := by omega
   have he0i : (0 : Int) < (e : Int) := by omega
   have hel : q + e ≤ len := by omega
   have heli : (q : Int) + (e : Int) ≤ (len : Int) := by omega
   have hqe : (q : Int) ≤ (q : Int) + (e : Int) := by omega
   have hle : (q : Int) + (e : Int) ≤ (cap : Int) := by omega
   have hwe : IntKind.i64.wrap ((q : Int) + (e : Int)) = ((q + e : Nat) : Int) := by rw [IntWalk.i64_in _ (by omega)]; omega
   have hmin : min (m : Int) ((len - q : Nat) : Int) = (e : Int) := by omega
   obtain ⟨fn, tmps, assign, body, hy, hR⟩ := hY pre ⟨k, hkl⟩ wr.drew (hJd _ _ hJs) (by rw [HK.out.1]; exact hkl)
   have hv : Ck.val p (⟨k, hkl⟩ : Ck m len) = .slice (some (p.add (q * 5))) e e := by
    unfold Ck.val Ck.len
    simp only
    rw [← hq, ← he]
   rw [hv] at hy
   have hcne : (cap = q) = False := eq_false (by omega)
   have hcne2 : (e = 0) = False := eq_false (by omega)
   have HST := Lib.hid (show ∃ f', (L.drop ((k + 1) * m)).length ≤ f' ∧ (pre ++ [(⟨k, hkl⟩ : Ck m len)]).map (Ck.of L) ++ Tb.cut m f' (L.drop ((k + 1) * m)) = Tb.cut m len L from cut_next hm hL hkl (by rw [← hq]; exact HK.out.2.1) (by rw [← hq]; exact HK.out.2.2))
   have HPL := Lib.hid HK.out.1
   have hkm : (k + 1) * m = q + m := by rw [hq]; exact Nat.succ_mul k m
   have hwqm : IntKind.i64.wrap ((q : Int) + (m : Int)) = ((q + m : Nat) : Int) := by rw [IntWalk.i64_in _ (by omega)]; omega
   have HKM := Lib.hid hkm
   have HR := Lib.hid hR
   have HE := Lib.hid (And.intro he hq)
   clear hR hv he hq hY hkm HK
   gi_wp2
   gi_region
   all_goals gi_wp2
   all_goals
    refine HR.out.mono ?_
    rintro e' W3 (⟨rfl, hJ3, hk3⟩ | ⟨rfl, hJx3⟩)
    ·have hs4 : W3.cell? ⟨Bs, 0, none⟩ = some (.slice (some p) len cap) := (hKc _ _ hk3).1.trans hs1
     have hs3 : W3.cell? ⟨Bn, 0, none⟩ = some (.int .i64 (m : Int)) := (hKc _ _ hk3).2.trans hs2
     clear hk3
     gi_wp2
     go_roundw
     case rel =>
      obtain ⟨f', z1, z2⟩ := HST.out
      exact ⟨k + 1, f', pre ++ [⟨k, hkl⟩], by rw [HKM.out]; go_num, by rw [HKM.out]; omega, Lib.hid ⟨by rw [List.length_append, HPL.out]; rfl, z1, z2⟩, hJ3, hs4, hs3⟩
     case measure => simp [intOf]; omega
    ·gi_wp2
     refine bodyPost_ret (results_none rfl _ _ _) rfl ?_
     exact ⟨⟨_, rfl⟩, .inr ⟨_, hJx3⟩⟩
  ·have hlti : ((q : Int) < (len : Int)) = False := eq_false (by omega)
   have hfin : pre.map (Ck.of L) = Tb.cut m len L := by
    have h1 := HK.out.2.2
    rw [List.drop_eq_nil_of_le (by omega)] at h1
    rw [← h1]
    cases f <;> simp [Tb.cut]
   have HFIN := Lib.hid hfin
   clear hfin HK hq
   gi_wp2
   go_end0
   exact ⟨⟨_, rfl⟩, .inl ⟨_, HFIN.out, hJs⟩⟩
theorem chunk_in (F : Fence) (n : Nat) (h5 : F.fn 106) (hro : F.round = none) (a : Option Addr) (len cap m : Nat) (hm : 1 ≤ m) (w : World) :
  CallsIn F n Tryz.prog 106 #[.slice a len cap, .int .i64 (m : Int)] w fun e w' => e = .returned (.func (.func 176) #[] #[.pointer (some ⟨w.heap.size, 0, none⟩), .pointer (some ⟨w.heap.size + 1, 0, none⟩)]) ∧ w' = (w.alloc (.cells #[.slice a len cap] 24)).alloc (.cells #[.int .i64 (m : Int)] 3) := by
 have h1 : ((m : Int) < 1) = False := eq_false (by omega)
 refine callsIn_of_wp Tryz.func106 rfl h5 ?_ hro
 simp only [Tryz.ntmps106, List.size_toArray, List.length_cons, List.length_nil, Nat.reduceAdd, Nat.reduceSub, Array.replicate_succ, Array.replicate_zero, List.push_toArray, List.append_toArray, List.nil_append, List.cons_append]
 gi_wp2
 go_ret
 exact ⟨rfl, rfl⟩
end
end Go.Proofs.YtdkjoigpahafmaaGreatDoor
