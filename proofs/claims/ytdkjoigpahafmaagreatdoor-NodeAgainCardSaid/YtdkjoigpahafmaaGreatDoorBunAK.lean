/- Texts Once, OnceB, ManC, LogA, IConcat, ChunkA, ChunkB, BlockA, BloomA in one. No conditions. -/
import Derived.Test.YtdkjoigpahafmaaGreatDoorBunAA
import Derived.Test.YtdkjoigpahafmaaGreatDoorRows
import Derived.Tactics
import Derived.Tactics2
import Derived.Defers
import Derived.Laws.Pointers
import Derived.Laws.LoneSync
import Derived.Laws.NewBlocks
import Derived.RegionTactic
import Derived.RegionCalls
import Derived.ChangeAlike
import Derived.Test.YtdkjoigpahafmaaGreatDoorBunAJ
import Derived.Test.YtdkjoigpahafmaaGreatDoorBunAD
import Derived.Test.YtdkjoigpahafmaaGreatDoorBunAI
import Derived.Test.YtdkjoigpahafmaaGreatDoorBunAG
import Derived.RangeFuncBox
import Derived.RangeFuncNested
import Derived.RangeFuncBound
import Derived.RangeFuncCalls
import Derived.RangeFuncLeaves
import Derived.Shelf.Abstract
import Derived.Shelf.RegionOpen
import Derived.WalkKit
import Derived.OwnWalkIn
import Derived.TacticsInMore
import Derived.LoopNIn
import Derived.LoopIn
import Derived.Maps.AppendAt
import Derived.Maps.OwnIn
import Derived.Deep.RegionHeld3

set_option linter.unusedSimpArgs false
set_option linter.unusedVariables false
set_option maxRecDepth 100000
set_option maxHeartbeats 16000000
namespace Go.Proofs.YtdkjoigpahafmaaGreatDoor
section
open Go Go.RowKit
namespace Once
theorem disable (w : World) : (callFunc 317 #[]).run Tryz.prog w = .ok (.value (.tuple #[])) w := run_call_mark0 Tryz.func317 (by kernel_rfl) (by kernel_rfl) (by kernel_rfl) .disable (by kernel_rfl) w
theorem enable (w : World) : (callFunc 319 #[]).run Tryz.prog w = .ok (.value (.tuple #[])) w := run_call_mark0 Tryz.func319 (by kernel_rfl) (by kernel_rfl) (by kernel_rfl) .enable (by kernel_rfl) w
theorem acquire (a : Addr) (w : World) : (callFunc 320 #[.pointer (some a)]).run Tryz.prog w = .ok (.value (.tuple #[])) w := run_call_marked Tryz.func320 (by kernel_rfl) (by kernel_rfl) (by kernel_rfl) .acquire (by kernel_rfl) a w
theorem releaseMerge (a : Addr) (w : World) : (callFunc 322 #[.pointer (some a)]).run Tryz.prog w = .ok (.value (.tuple #[])) w := run_call_marked Tryz.func322 (by kernel_rfl) (by kernel_rfl) (by kernel_rfl) .releaseMerge (by kernel_rfl) a w
theorem store_deferred (a : Addr) (x : Value) (u : FrameMode) (w : World) (hc : w.cell? a = some x) (hz : w.frozen? a = false) :
  CallsD Tryz.prog 277 #[.pointer (some a), .bool true] u w fun e u' w' => u' = u ∧ (e = .returned (.tuple #[]) ∧ w' = w.drew.setCell a (.int .u32 1)) := by
 have hc' : w.drew.cell? a = some x := by go_simp
 have hz' : w.drew.frozen? a = false := by go_simp
 have hst := run_call_store (P := Tryz.prog) Tryz.func304 (by kernel_rfl) (by kernel_rfl) (by kernel_rfl) (by kernel_rfl) (k := .u32) (y := 1) hc' hz'
 go_enter_d Tryz.func277, Tryz.ntmps277
 go_wp2
 go_region_calls
 all_goals (go_end0; exact ⟨rfl, rfl⟩)
theorem unlock_deferred (a : Addr) (u : FrameMode) (w : World) (hc : w.cell? a = some (.int .i32 1)) (hz : w.frozen? a = false) :
  CallsD Tryz.prog 276 #[.pointer (some a)] u w fun e u' w' => u' = u ∧ (e = .returned (.tuple #[]) ∧ w' = w.setCell a (.int .i32 0)) := by
 have hd := disable
 have he := enable
 have hr := releaseMerge
 have hadd := run_call_add (P := Tryz.prog) Tryz.func323 (by kernel_rfl) (by kernel_rfl) (by kernel_rfl) .i32 (by kernel_rfl) (y := -1) (s := 0) hc hz (by simp [go_sem]; rfl)
 first | have hcv := run_convert_to_unsafe (P := Tryz.prog) (src := 387) (dst := 233) Tryz.underlying387 Tryz.underlying233 (by kernel_rfl) hc | have hcv := run_convert_to_unsafe (P := Tryz.prog) (src := 373) (dst := 233) Tryz.underlying373 Tryz.underlying233 (by kernel_rfl) hc | have hcv := run_convert_to_unsafe (P := Tryz.prog) (src := 406) (dst := 233) Tryz.underlying406 Tryz.underlying233 (by kernel_rfl) hc | have hcv := run_convert_to_unsafe (P := Tryz.prog) (src := 233) (dst := 233) Tryz.underlying233 Tryz.underlying233 (by kernel_rfl) hc
 go_enter_d Tryz.func276, Tryz.ntmps276
 go_wp2
 go_end0
 go_wp2
 go_end0
 exact ⟨rfl, rfl⟩
theorem lock_free (a : Addr) (w : World) (hc : w.cell? a = some (.int .i32 0)) (hz : w.frozen? a = false) :
  Calls Tryz.prog 275 #[.pointer (some a)] w fun e w' => e = .returned (.tuple #[]) ∧ w' = w.setCell a (.int .i32 1) := by
 have hd := disable
 have he := enable
 have ha := acquire
 have hcas := run_call_cas_hit (P := Tryz.prog) Tryz.func318 (by kernel_rfl) (by kernel_rfl) (by kernel_rfl) .i32 (by kernel_rfl) (y := 1) hc hz
 have hc' : (w.setCell a (.int .i32 1)).cell? a = some (.int .i32 1) := World.cell?_setCell_same w a _ hc
 first | have hcv := run_convert_to_unsafe (P := Tryz.prog) (src := 387) (dst := 233) Tryz.underlying387 Tryz.underlying233 (by kernel_rfl) hc' | have hcv := run_convert_to_unsafe (P := Tryz.prog) (src := 373) (dst := 233) Tryz.underlying373 Tryz.underlying233 (by kernel_rfl) hc' | have hcv := run_convert_to_unsafe (P := Tryz.prog) (src := 406) (dst := 233) Tryz.underlying406 Tryz.underlying233 (by kernel_rfl) hc' | have hcv := run_convert_to_unsafe (P := Tryz.prog) (src := 233) (dst := 233) Tryz.underlying233 Tryz.underlying233 (by kernel_rfl) hc'
 go_enter Tryz.func275, Tryz.ntmps275
 go_wp2
 first | go_end0 | (simp only [Exit.inBlock, Exit.then]; refine bodyPost_ret (results_none rfl _ _ _) rfl ?_) | refine bodyPost_ret (results_none rfl _ _ _) rfl ?_
 go_wp2
 go_end0
 exact ⟨rfl, rfl⟩
end Once
end
section
open Go Go.RowKit
namespace Once
theorem slow_any (b : Nat) (pl : Addr) (hpb : ¬ b = pl.block) (x3 : Value) (w : World) (hp : w.cell? pl = some (.pointer (some ⟨b, 0, none⟩)))
  (h0 : w.cell? ⟨b, 9, none⟩ = some (.int .u32 0)) (h1 : w.cell? ⟨b, 10, none⟩ = some (.int .i32 0)) (h3 : w.cell? ⟨b, 12, none⟩ = some x3)
  (f0 : w.frozen? ⟨b, 9, none⟩ = false) (f1 : w.frozen? ⟨b, 10, none⟩ = false) (f3 : w.frozen? ⟨b, 12, none⟩ = false) :
  Calls Tryz.prog 253 #[.pointer (some ⟨b, 9, none⟩), .func (.func 245) #[] #[.pointer (some pl)]] w fun e w' => e = .returned (.tuple #[]) ∧
   w' = (((w.setCell ⟨b, 10, none⟩ (.int .i32 1)).setCell ⟨b, 12, none⟩ (.bool true)).drew.setCell ⟨b, 9, none⟩ (.int .u32 1)).setCell ⟨b, 10, none⟩ (.int .i32 0) := by
 have hl := run_call_load (P := Tryz.prog) Tryz.func274 (by kernel_rfl) (by kernel_rfl) (by kernel_rfl) .u32 (by kernel_rfl) (w := w.setCell ⟨b, 10, none⟩ (.int .i32 1)) (a := ⟨b, 9, none⟩) (x := 0) ((World.cell?_setCell_other _ ⟨b, 10, none⟩ ⟨b, 9, none⟩ _ (by simp)).trans h0)
 have hp1 : (w.setCell ⟨b, 10, none⟩ (.int .i32 1)).cell? pl = some (.pointer (some ⟨b, 0, none⟩)) := (World.cell?_setCell_other _ ⟨b, 10, none⟩ pl _ (fun h => hpb (by rw [← h]))).trans hp
 have h31 : (w.setCell ⟨b, 10, none⟩ (.int .i32 1)).cell? ⟨b, 12, none⟩ = some x3 := (World.cell?_setCell_other _ ⟨b, 10, none⟩ ⟨b, 12, none⟩ _ (by simp)).trans h3
 have hnot : ∀ (x : Bool) (w : World), (Op.unary .not (.bool x)).run Tryz.prog w = .ok (.bool (!x)) w := fun _ _ => rfl
 go_enter_defers Tryz.func253, Tryz.ntmps253
 go_wp2_with (go_at_call 275; refine (lock_free ⟨b, 10, none⟩ _ (by go_simp) (by go_simp)).mono ?_; rintro e w' ⟨rfl, rfl⟩)
 go_wp2
 go_end0
 go_wp2
 -- THE DOOR: two deferred calls, the last laid first
 refine leaves_cons (f := 277) (args := #[.pointer (some ⟨b, 9, none⟩), .bool true]) (by simp) (by simp [go_sem]) ?_
 refine (store_deferred ⟨b, 9, none⟩ (.int .u32 0) .returning _ ?_ (by simp [f0])).mono ?_
 ·exact (World.cell?_setCell_other _ ⟨b, 12, none⟩ ⟨b, 9, none⟩ _ (by simp)).trans ((World.cell?_setCell_other _ ⟨b, 10, none⟩ ⟨b, 9, none⟩ _ (by simp)).trans h0)
 rintro e u' w'' ⟨rfl, rfl, rfl⟩
 refine leaves_cons (f := 276) (args := #[.pointer (some ⟨b, 10, none⟩)]) (by simp [settle]) (by simp [go_sem]) ?_
 refine (unlock_deferred ⟨b, 10, none⟩ _ _ ?_ (by simp [f1])).mono ?_
 ·refine (World.cell?_setCell_other _ ⟨b, 9, none⟩ ⟨b, 10, none⟩ _ (by simp)).trans ?_
  rw [World.cell?_drew]
  exact (World.cell?_setCell_other _ ⟨b, 12, none⟩ ⟨b, 10, none⟩ _ (by simp)).trans (World.cell?_setCell_same w _ _ h1)
 rintro e u' w'' ⟨rfl, rfl, rfl⟩
 simp [Leaves, settle, results, Tryz.results253]
theorem do_first (b : Nat) (pl : Addr) (hpb : ¬ b = pl.block) (x3 : Value) (w : World) (hp : w.cell? pl = some (.pointer (some ⟨b, 0, none⟩)))
  (h0 : w.cell? ⟨b, 9, none⟩ = some (.int .u32 0)) (h1 : w.cell? ⟨b, 10, none⟩ = some (.int .i32 0)) (h3 : w.cell? ⟨b, 12, none⟩ = some x3)
  (f0 : w.frozen? ⟨b, 9, none⟩ = false) (f1 : w.frozen? ⟨b, 10, none⟩ = false) (f3 : w.frozen? ⟨b, 12, none⟩ = false) :
  Calls Tryz.prog 222 #[.pointer (some ⟨b, 9, none⟩), .func (.func 245) #[] #[.pointer (some pl)]] w fun e w' => e = .returned (.tuple #[]) ∧ w' = ((((w.setCell ⟨b, 10, none⟩ (.int .i32 1)).setCell ⟨b, 12, none⟩ (.bool true)).drew.setCell ⟨b, 9, none⟩ (.int .u32 1)).setCell ⟨b, 10, none⟩ (.int .i32 0)) := by
 have hl := run_call_load (P := Tryz.prog) Tryz.func274 (by kernel_rfl) (by kernel_rfl) (by kernel_rfl) .u32 (by kernel_rfl) h0
 have hnot : ∀ (x : Bool) (w : World), (Op.unary .not (.bool x)).run Tryz.prog w = .ok (.bool (!x)) w := fun _ _ => rfl
 go_enter Tryz.func222, Tryz.ntmps222
 go_wp2_with (first | (go_at_call 253; refine (slow_any b pl hpb x3 _ hp h0 h1 h3 f0 f1 f3).mono ?_; rintro e w' ⟨rfl, rfl⟩) | (go_at_call 252; go_in))
 go_end0
 exact ⟨rfl, rfl⟩
theorem do_done (a : Addr) (d : Int) (hd : ¬ d = 0) (fv : Value) (w : World) (h0 : w.cell? a = some (.int .u32 d)) :
  Calls Tryz.prog 222 #[.pointer (some a), fv] w fun e w' => e = .returned (.tuple #[]) ∧ w' = w := by
 have hl := run_call_load (P := Tryz.prog) Tryz.func274 (by kernel_rfl) (by kernel_rfl) (by kernel_rfl) .u32 (by kernel_rfl) h0
 have hnot : ∀ (x : Bool) (w : World), (Op.unary .not (.bool x)).run Tryz.prog w = .ok (.bool (!x)) w := fun _ _ => rfl
 have hd' : (d != 0) = true := by simp [hd]
 go_enter Tryz.func222, Tryz.ntmps222
 go_wp2
 go_end0
 exact ⟨rfl, rfl⟩
end Once
end
section
open Go Go.RowKit Go.Shelf
structure Acc (F : List Nat) (X : Dw) (w : World) (S : Sd) (w' : World) (X' : Dw) : Prop where
 e : X'.d = X.d
 dm : Dm w' X' S
 c : Chg (F ++ X.foot) w w'
 f : ∀ g ∈ X'.foot, g ∈ X.foot ∨ w.heap.size ≤ g
variable {F : List Nat} {X X1 : Dw} {w w1 w2 : World} {S S1 : Sd}
theorem Acc.start (h : Dm w X S) : Acc F X w S w X := ⟨rfl, h, Chg.refl _ _, fun _ hg => .inl hg⟩
theorem Acc.below (h : Acc F X w S w1 X1) (hb : Below w1.heap.size w1 w2) : Acc F X w S w2 X1 := ⟨h.e, h.dm.below hb, h.c.trans (Chg.of_below hb []) (fun g hg => by cases hg), h.f⟩
theorem Acc.step (h : Acc F X w S w1 X1) (hu : UpdM X1 w1 w2 S1) : ∃ X2, Acc F X w S1 w2 X2 := by
 obtain ⟨X2, e, hd, hc, hf⟩ := hu
 refine ⟨X2, e.trans h.e, hd, h.c.trans hc (fun g hg => ?_), fun g hg => ?_⟩
 ·rcases h.f g hg with h1 | h1
  ·exact .inl (List.mem_append_right _ h1)
  ·exact .inr h1
 ·rcases hf g hg with h1 | h1
  ·exact h.f g h1
  ·exact .inr (Nat.le_trans h.c.size h1)
theorem Acc.other (h : Acc F X w S w1 X1) {G : List Nat} (c : Chg G w1 w2) (hG : ∀ g ∈ G, g ∈ F ∧ g < w.heap.size ∧ g ∉ X.foot ∧ NG ≤ g) : Acc F X w S w2 X1 := by
 refine ⟨h.e, h.dm.chg c (fun g hg => ⟨fun hm => ?_, (hG g hg).2.2.2⟩), h.c.trans c (fun g hg => .inl (List.mem_append_left _ (hG g hg).1)), h.f⟩
 obtain ⟨_, h2, h3, _⟩ := hG g hg
 rcases h.f g hm with h4 | h4
 ·exact h3 h4
 ·omega
theorem Acc.updM (h : Acc [] X w S w1 X1) : UpdM X w w1 S := ⟨X1, h.e, h.dm, by simpa using h.c, h.f⟩
theorem Acc.read (h : Acc F X w S w1 X1) (s : ByteArray) (hs : s.size ≤ maxLen) :
  Calls Tryz.prog 125 #[.pointer (some ⟨X.d, 0, none⟩), .string s] w1 fun e w' => ∃ A c, e = .returned (.tuple #[.slice A (S.read s.data.toList).1.length c, .int .i64 ((S.read s.data.toList).2 : Int)]) ∧
   w'.ownsRow w1.heap.size 5 1 (.slice A (S.read s.data.toList).1.length c) (S.read s.data.toList).1.length (bts (S.read s.data.toList).1) ∧ Below w1.heap.size w1 w' := by
 rw [← h.e]
 exact read_any X1 S s hs h.dm.wf w1 h.dm.dk
theorem Acc.write (h : Acc F X w S w1 X1) (s : ByteArray) (hs : s.size ≤ maxLen) (A : Option Addr) (m c : Nat) (b : List UInt8) (hm : m ≤ 1099511627776) (hl : S.load ≤ 1099511627776) (hr : Row w1.heap.size w1 A m 1 (bts b)) (hA : ∀ a, A = some a → a.block ∉ X1.foot) :
  Calls Tryz.prog 199 #[.pointer (some ⟨X.d, 0, none⟩), .string s, .slice A m c] w1 fun e w' => e = .returned (.int .i64 ((S.write s.data.toList b).2 : Int)) ∧ ∃ X2, Acc F X w (S.write s.data.toList b).1 w' X2 := by
 rw [← h.e]
 exact (write_any X1 S s hs A m c b hm hl w1 h.dm hr hA).mono fun e w' ⟨h1, h2⟩ => ⟨h1, h.step h2⟩
theorem Acc.append (h : Acc F X w S w1 X1) (s : ByteArray) (hs : s.size ≤ maxLen) (A : Option Addr) (m c : Nat) (b : List UInt8) (hm : m ≤ 1099511627776) (hr : Row w1.heap.size w1 A m 1 (bts b)) (hA : ∀ a, A = some a → a.block ∉ X1.foot) :
  Calls Tryz.prog 84 #[.pointer (some ⟨X.d, 0, none⟩), .string s, .slice A m c] w1 fun e w' => e = .returned (.int .i64 ((S.append s.data.toList b).2 : Int)) ∧ ∃ X2, Acc F X w (S.append s.data.toList b).1 w' X2 := by
 rw [← h.e]
 exact (append_any X1 S s hs A m c b hm h.dm.wf w1 h.dm.dk hr (fun a ha e => hA a ha (by rw [e]; exact mem_foot.2 (.inl rfl)))).mono fun e w' ⟨h1, h2⟩ => ⟨h1, h.step (h.dm.upd (h.dm.wf.append _ _) h2)⟩
theorem Acc.create (h : Acc F X w S w1 X1) (s : ByteArray) (hs : s.size ≤ maxLen) (hl : S.load ≤ 1099511627776) :
  Calls Tryz.prog 172 #[.pointer (some ⟨X.d, 0, none⟩), .string s] w1 fun e w' => e = .returned (.int .i64 ((S.create s.data.toList).2 : Int)) ∧ ∃ X2, Acc F X w (S.create s.data.toList).1 w' X2 := by
 rw [← h.e]
 exact (create_any X1 S s hs h.dm.wf hl w1 h.dm.dk).mono fun e w' ⟨h1, h2⟩ => ⟨h1, h.step (h.dm.upd (h.dm.wf.create _) h2)⟩
theorem Acc.sync (h : Acc F X w S w1 X1) (s : ByteArray) (hs : s.size ≤ maxLen) :
  Calls Tryz.prog 173 #[.pointer (some ⟨X.d, 0, none⟩), .string s] w1 fun e w' => e = .returned (.int .i64 ((S.sync s.data.toList).2 : Int)) ∧ ∃ X2, Acc F X w (S.sync s.data.toList).1 w' X2 := by
 rw [← h.e]
 exact (sync_any X1 S s hs h.dm.wf w1 h.dm.dk).mono fun e w' ⟨h1, h2⟩ => ⟨h1, h.step (h.dm.upd (h.dm.wf.sync _) h2)⟩
theorem Acc.remove (h : Acc F X w S w1 X1) (s : ByteArray) (hs : s.size ≤ maxLen) (hl : S.load ≤ 1099511627776) :
  Calls Tryz.prog 100 #[.pointer (some ⟨X.d, 0, none⟩), .string s] w1 fun e w' => e = .returned (.int .i64 ((S.remove s.data.toList).2 : Int)) ∧ ∃ X2, Acc F X w (S.remove s.data.toList).1 w' X2 := by
 rw [← h.e]
 exact (remove_any X1 S s hs h.dm.wf hl w1 h.dm.dk).mono fun e w' ⟨h1, h2⟩ => ⟨h1, h.step (h.dm.upd (h.dm.wf.remove _) h2)⟩
theorem Acc.rename (h : Acc F X w S w1 X1) (s u : ByteArray) (hs : s.size ≤ maxLen) (hu : u.size ≤ maxLen) (hl : S.load ≤ 1099511627776) :
  Calls Tryz.prog 201 #[.pointer (some ⟨X.d, 0, none⟩), .string s, .string u] w1 fun e w' => e = .returned (.int .i64 ((S.rename s.data.toList u.data.toList).2 : Int)) ∧ ∃ X2, Acc F X w (S.rename s.data.toList u.data.toList).1 w' X2 := by
 rw [← h.e]
 exact (rename_any X1 S s u hs hu h.dm.wf hl w1 h.dm.dk).mono fun e w' ⟨h1, h2⟩ => ⟨h1, h.step (h.dm.upd (h.dm.wf.rename _ _) h2)⟩
theorem Acc.syncDir (h : Acc F X w S w1 X1) :
  Calls Tryz.prog 174 #[.pointer (some ⟨X.d, 0, none⟩)] w1 fun e w' => e = .returned (.int .i64 ((S.syncDir).2 : Int)) ∧ ∃ X2, Acc F X w (S.syncDir).1 w' X2 := by
 rw [← h.e]
 exact (syncDir_any X1 S h.dm.wf w1 h.dm.dk).mono fun e w' ⟨h1, h2⟩ => ⟨h1, h.step (h.dm.upd h.dm.wf.syncDir h2)⟩
theorem Acc.list (h : Acc F X w S w1 X1) :
  Calls Tryz.prog 123 #[.pointer (some ⟨X.d, 0, none⟩)] w1 fun e w' => ∃ A c, e = .returned (.slice A S.list.length c) ∧ w'.ownsRow w1.heap.size 9 1 (.slice A S.list.length c) S.list.length (S.list.map Go.Proofs.encStr) ∧ Below w1.heap.size w1 w' := by
 rw [← h.e]
 exact dlist_any X1 S h.dm.wf w1 h.dm.dk
theorem Acc.greatest (h : Acc F X w S w1 X1) (k : ByteArray) (hk : k.size ≤ 1000) :
  Calls Tryz.prog 144 #[.pointer (some ⟨X.d, 0, none⟩), .string k] w1 fun e w' => e = .returned (.int .i64 (Mn.greatest S.list k.data.toList)) ∧ Below w1.heap.size w1 w' := by
 rw [← h.e]
 exact greatest_any X1 S k hk w1 h.dm
def Ms.cells (M : Ms) (xd : Nat) : List Value := [.pointer (some ⟨xd, 0, none⟩), .string (str M.name), .int .i64 (M.v.g : Int), .slice none 0 0, .int .u64 (M.v.f : Int), .int .u64 (M.v.c : Int), .int .u64 (M.v.a : Int), .int .u64 (M.v.l : Int), .int .i64 (M.count : Int), .int .u32 (if M.broken = true then 1 else 0), .int .i32 0, .int .u32 0, .bool M.broken]
abbrev MK (w : World) (m xd : Nat) (M : Ms) : Prop := BoxO w 209 m (M.cells xd)
theorem break_any (m xd : Nat) (M : Ms) (w : World) (h : MK w m xd M) : Calls Tryz.prog 202 #[.pointer (some ⟨m, 0, none⟩)] w fun e w' => e = .returned (.tuple #[]) ∧ MK w' m xd { M with broken := true } ∧ Chg [m] w w' := by
 have hmf : ∀ (fn : Fn) (first cap : Array Value) (w : World), (Instr.makeFunc fn first cap).run Tryz.prog w = .ok (.func fn first cap) w := fun _ _ _ _ => rfl
 have hlt := h.lt
 have h1 : MK (w.alloc (.cells #[.pointer (some ⟨m, 0, none⟩)] 70)) m xd M := BoxO.alloc h _
 have hp : (w.alloc (.cells #[.pointer (some ⟨m, 0, none⟩)] 70)).cell? ⟨w.heap.size, 0, none⟩ = some (.pointer (some ⟨m, 0, none⟩)) := by simp
 have hc1 : Chg [m] w (w.alloc (.cells #[.pointer (some ⟨m, 0, none⟩)] 70)) := (Chg.refl [m] w).alloc _
 generalize hV : w.alloc (.cells #[.pointer (some ⟨m, 0, none⟩)] 70) = V at *
 have c9 := h1.cell 9
 have c10 := h1.cell 10
 have c12 := h1.cell 12
 simp only [Ms.cells, gE0, gE1] at c9 c10 c12
 cases hb : M.broken with
 | false =>
  rw [hb] at c9 c12
  simp only [Bool.false_eq_true, if_false] at c9
  have hdo := Once.do_first m ⟨w.heap.size, 0, none⟩ (by simp; omega) _ V hp c9 c10 c12 (h1.free 9) (h1.free 10) (h1.free 12)
  have hbx := ((((h1.store 10 (.int .i32 1)).store 12 (.bool true)).drew.store 9 (.int .u32 1)).store 10 (.int .i32 0))
  have hcc : Chg [m] V ((((V.setCell ⟨m, 10, none⟩ (.int .i32 1)).setCell ⟨m, 12, none⟩ (.bool true)).drew.setCell ⟨m, 9, none⟩ (.int .u32 1)).setCell ⟨m, 10, none⟩ (.int .i32 0)) := (((((Chg.refl [m] V).setCell _ (.inl (by simp))).setCell _ (.inl (by simp))).drew).setCell _ (.inl (by simp))).setCell _ (.inl (by simp))
  have hres : MK ((((V.setCell ⟨m, 10, none⟩ (.int .i32 1)).setCell ⟨m, 12, none⟩ (.bool true)).drew.setCell ⟨m, 9, none⟩ (.int .u32 1)).setCell ⟨m, 10, none⟩ (.int .i32 0)) m xd { M with broken := true } := hbx
  have HR := Lib.hid (And.intro hres (hc1.trans hcc (fun g hg => .inl hg)))
  clear hres hcc hbx hb
  go_enter Tryz.func202, Tryz.ntmps202
  go_wp2_with fail
  refine hdo.mono ?_
  rintro e w2 ⟨rfl, rfl⟩
  go_wp2
  exact bodyPost_end (v := .tuple #[]) (by simp [results, go_sem]) rfl ⟨rfl, HR.out⟩
 | true =>
  rw [hb] at c9
  simp only [if_true] at c9
  have hdo := Once.do_done ⟨m, 9, none⟩ 1 (by omega) (.func (.func 245) #[] #[.pointer (some ⟨w.heap.size, 0, none⟩)]) V c9
  have hres : MK V m xd { M with broken := true } := by
   have e : ({ M with broken := true } : Ms) = M := by cases M; simp at hb; simp [hb]
   rw [e]
   exact h1
  have HR := Lib.hid (And.intro hres hc1)
  clear hres hb
  go_enter Tryz.func202, Tryz.ntmps202
  go_wp2_with fail
  refine hdo.mono ?_
  rintro e w2 ⟨rfl, hw2⟩
  obtain rfl := hw2.symm
  go_wp2
  exact bodyPost_end (v := .tuple #[]) (by simp [results, go_sem]) rfl ⟨rfl, HR.out⟩
end
section
open Go Go.RowKit Go.Lib Go.Shelf
theorem batch_any (L : Option Addr) (m d : Nat) (l : List It) (w : World) (h0 : 0 < m) (hm : m ≤ 1000) (hq : Row w.heap.size w L m 5 (itc l)) (hk : ∀ x ∈ l, x.ok = true ∧ x.fit) :
  Calls Tryz.prog 83 #[.slice L m d] w fun e w' => ∃ A' M c', e = .returned (.tuple #[.slice A' M c', .int .i64 0]) ∧
   w'.ownsRow w.heap.size 5 1 (.slice A' M c') M (bts (Lg.batch l)) ∧ M ≤ c' ∧ c' ≤ maxLen ∧ Below w.heap.size w w' := by
 have hmn := hq.itlen
 have hib := ibytes_any none 0 0 [] L m d l w (by omega) (by omega) Row.nil_ hq hk
 rw [List.nil_append] at hib
 have hbl := It.bytes_len l
 have hm0 : ((m : Int) == 0) = false := by simp; omega
 have HIB := Lib.hid hib
 clear hib hk
 go_enter Tryz.func83, Tryz.ntmps83
 go_wp2_with fail
 refine HIB.out.mono ?_
 rintro e w1 ⟨A1, M1, c1, rfl, ho1, hc1, hm1, hb1⟩
 have hML : M1 = (It.bytes l).length := by
  have := ho1.1
  rw [bts_length] at this
  omega
 have hM6 : M1 ≤ 60000 := by omega
 have hM6i : ((60000 : Int) < (M1 : Int)) = False := eq_false (by omega)
 have hfp := fput_any none 0 0 [] 1 A1 M1 c1 (It.bytes l) w1 (by omega) (by omega) (by omega) Row.nil_ (by omega) (by omega) hM6 hc1 hm1 (Row.own ho1)
 rw [List.nil_append] at hfp
 have HFP := Lib.hid hfp
 clear hfp ho1 HIB hML
 go_wp2_with fail
 refine HFP.out.mono ?_
 rintro e w2 ⟨A2, M2, c2, rfl, ho2, hc2, hm2, hb2⟩
 have hob := own_base ho2 hb1.size
 have hbz := later_ hb1 hb2
 have HF := Lib.hid (And.intro hob (And.intro hc2 (And.intro hm2 hbz)))
 clear ho2 hob hbz HFP
 go_wp2
 go_ret2
 exact ⟨A2, M2, c2, rfl, HF.out⟩
abbrev LgAt (w : World) (g xd : Nat) (nm : List UInt8) (sz ct : Nat) : Prop := BoxO w 147 g [.pointer (some ⟨xd, 0, none⟩), .string (str nm), .int .i64 (sz : Int), .int .i64 (ct : Int), .bool false]
theorem UpdM.drew {X : Dw} {S : Sd} {w w' : World} (h : UpdM X w.drew w' S) : UpdM X w w' S := by
 obtain ⟨X2, a, b, c, d⟩ := h
 exact ⟨X2, a, b, ((Chg.refl X.foot w).drew).trans c (fun g hg => .inl hg), d⟩
theorem LgAt.upd {X : Dw} {S : Sd} {w w' : World} {g xd : Nat} {nm : List UInt8} {sz ct : Nat} (h : LgAt w g xd nm sz ct) (hu : UpdM X w w' S) (hg : g ∉ X.foot) : LgAt w' g xd nm sz ct := by
 obtain ⟨X2, a, b, c, d⟩ := hu
 exact h.chg c hg
theorem str_data (l : List UInt8) : (str l).data.toList = l := by simp [str]
theorem lsync_any (X : Dw) (S : Sd) (g : Nat) (nm : List UInt8) (sz ct : Nat) (w : World) (hnm : nm.length ≤ 1000) (h : Dm w X S) (hg : LgAt w g X.d nm sz ct) (hgX : g ∉ X.foot) :
  Calls Tryz.prog 128 #[.pointer (some ⟨g, 0, none⟩)] w fun e w' => e = .returned (.int .i64 ((S.sync nm).2 : Int)) ∧ UpdM X w w' (S.sync nm).1 := by
 have c0 := hg.cell 0
 have c1 := hg.cell 1
 have c4 := hg.cell 4
 simp only [gE0, gE1] at c0 c1 c4
 have hs := (Acc.start (F := []) (h.below (w' := w.drew) (below_drew (Below.refl _ _)))).sync (str nm) (by rw [str_size]; unfold maxLen; omega)
 rw [str_data] at hs
 have hs2 : Calls Tryz.prog 173 #[.pointer (some ⟨X.d, 0, none⟩), .string (str nm)] w.drew fun e w' => e = .returned (.int .i64 ((S.sync nm).2 : Int)) ∧ UpdM X w w' (S.sync nm).1 := hs.mono fun e w' ⟨h1, X2, h2⟩ => ⟨h1, UpdM.drew h2.updM⟩
 generalize (S.sync nm).2 = er at *
 have HS := Lib.hid hs2
 have HG := Lib.hid hg
 clear hs hs2 hg h
 go_enter Tryz.func128, Tryz.ntmps128
 go_wp2_with fail
 refine wp_region_held_drew (S := fun w' => LgAt w' g X.d nm sz ct) rfl HG.out.drew (fun hSw => ?_)
 refine wpT (i := 0) (v := ?vsy0) ?hsy0 hSw ?ksy0
 case hsy0 => (intro w hSw; (have c0 := hSw.cell 0; have c1 := hSw.cell 1; simp only [gE0, gE1] at c0 c1); go_simp; try (with_reducible rfl))
 go_simp
 refine wpT (i := 1) (v := ?vsy1) ?hsy1 hSw ?ksy1
 case hsy1 => (intro w hSw; (have c0 := hSw.cell 0; have c1 := hSw.cell 1; simp only [gE0, gE1] at c0 c1); go_simp; try (with_reducible rfl))
 go_simp
 refine wpT (i := 2) (v := ?vsy2) ?hsy2 hSw ?ksy2
 case hsy2 => (intro w hSw; (have c0 := hSw.cell 0; have c1 := hSw.cell 1; simp only [gE0, gE1] at c0 c1); go_simp; try (with_reducible rfl))
 go_simp
 refine wpT (i := 3) (v := ?vsy3) ?hsy3 hSw ?ksy3
 case hsy3 => (intro w hSw; (have c0 := hSw.cell 0; have c1 := hSw.cell 1; simp only [gE0, gE1] at c0 c1); go_simp; try (with_reducible rfl))
 go_simp
 refine wpT (i := 4) (v := ?vsy4) ?hsy4 hSw ?ksy4
 case hsy4 => (intro w hSw; (have c0 := hSw.cell 0; have c1 := hSw.cell 1; simp only [gE0, gE1] at c0 c1); go_simp; try (with_reducible rfl))
 go_simp
 refine wpT (i := 5) (v := ?vsy5) ?hsy5 hSw ?ksy5
 case hsy5 => (intro w hSw; (have c0 := hSw.cell 0; have c1 := hSw.cell 1; simp only [gE0, gE1] at c0 c1); go_simp; try (with_reducible rfl))
 go_simp
 refine wpT (i := 6) (v := ?vsy6) ?hsy6 hSw ?ksy6
 case hsy6 => (intro w hSw; (have c0 := hSw.cell 0; have c1 := hSw.cell 1; simp only [gE0, gE1] at c0 c1); go_simp; try (with_reducible rfl))
 go_simp
 refine wpT (i := 7) (v := ?vsy7) ?hsy7 hSw ?ksy7
 case hsy7 => (intro w hSw; (have c0 := hSw.cell 0; have c1 := hSw.cell 1; simp only [gE0, gE1] at c0 c1); go_simp; try (with_reducible rfl))
 go_simp
 refine wpAnyH_ready (rs := [8]) (by kernel_rfl) (by simp) ?_
 refine AllReadyH.cons rfl (fun K hK => ?_) AllReadyH.nil
 go_simp
 with_reducible refine HS.out.mono ?_
 rintro e w3 ⟨rfl, hu⟩
 go_simp
 refine hK.out _ _ (HG.out.upd hu hgX) (fun hSn => ?_)
 clear hK K hSw
 have hSw := hSn
 clear hSn
 go_simp
 refine wpT (i := 9) (v := ?vsy9) ?hsy9 hSw ?ksy9
 case hsy9 => (intro w hSw; (have c0 := hSw.cell 0; have c1 := hSw.cell 1; simp only [gE0, gE1] at c0 c1); go_simp; try (with_reducible rfl))
 go_simp
 refine wpAnyH_done (by kernel_rfl) ?_ _
 clear hSw
 go_wp2
 go_ret
 exact ⟨rfl, hu⟩
def LnPost (X : Dw) (w : World) (nm : List UInt8) (R : Sd × Nat) (e : Ending) (w' : World) : Prop := ∃ X', X'.d = X.d ∧ Dm w' X' R.1 ∧ Chg X.foot w w' ∧ (∀ g ∈ X'.foot, g ∈ X.foot ∨ w.heap.size ≤ g) ∧
 ((R.2 ≠ 0 ∧ e = .returned (.tuple #[.pointer none, .int .i64 (R.2 : Int)])) ∨ (R.2 = 0 ∧ ∃ g, e = .returned (.tuple #[.pointer (some ⟨g, 0, none⟩), .int .i64 0]) ∧ LgAt w' g X.d nm 0 0 ∧ w.heap.size ≤ g ∧ g ∉ X'.foot))
theorem lnew_any (X : Dw) (S : Sd) (nm : List UInt8) (w : World) (hnm : nm.length ≤ 1000) (hld : S.load ≤ 1099511627776) (h : Dm w X S) :
  Calls Tryz.prog 127 #[.pointer (some ⟨X.d, 0, none⟩), .string (str nm)] w (LnPost X w nm (S.create nm)) := by
 have hs := (Acc.start (F := []) h).create (str nm) (by rw [str_size]; unfold maxLen; omega) hld
 rw [str_data] at hs
 obtain ⟨R, hR⟩ : ∃ R, R = S.create nm := ⟨_, rfl⟩
 rw [← hR] at hs ⊢
 obtain ⟨S1, er⟩ := R
 simp only at hs
 have HS := Lib.hid hs
 clear hs h hR
 go_enter Tryz.func127, Tryz.ntmps127
 go_wp2_with fail
 refine HS.out.mono ?_
 rintro e w1 ⟨rfl, X2, h2⟩
 have H2 := Lib.hid h2
 clear h2 HS
 by_cases he : er = 0
 ·subst he
  go_wp2
  go_ret2
  have hc := H2.out.c
  have hlt := H2.out.dm.dk.lt
  have hsz := hc.size
  have hba := (Below.refl w1.heap.size w1).alloc (Nat.le_refl _) (.cells #[.pointer (some ⟨X.d, 0, none⟩), .string (str nm), .int .i64 0, .int .i64 0, .bool false] 147)
  refine ⟨X2, H2.out.e, H2.out.dm.below hba, by simpa using hc.alloc (.cells #[.pointer (some ⟨X.d, 0, none⟩), .string (str nm), .int .i64 0, .int .i64 0, .bool false] 147), H2.out.f, .inr ⟨rfl, w1.heap.size, rfl, BoxO.new _ _ _, hsz, fun hm => ?_⟩⟩
  have := hlt _ hm
  omega
 ·have he3 : ((er : Int) == 0) = false := by simp; omega
  go_wp2
  go_ret2
  exact ⟨X2, H2.out.e, H2.out.dm, by simpa using H2.out.c, H2.out.f, .inl ⟨he, rfl⟩⟩
def LpPost (X : Dw) (g : Nat) (w : World) (nm : List UInt8) (sz ct len : Nat) (R : Sd × Nat) (e : Ending) (w' : World) : Prop := e = .returned (.int .i64 (R.2 : Int)) ∧ ∃ X', X'.d = X.d ∧ Dm w' X' R.1 ∧ Chg (g :: X.foot) w w' ∧ (∀ g ∈ X'.foot, g ∈ X.foot ∨ w.heap.size ≤ g) ∧
 (if R.2 = 0 then LgAt w' g X.d nm (sz + len) (ct + 1) else LgAt w' g X.d nm sz ct)
theorem lput_any (X : Dw) (S : Sd) (g : Nat) (nm : List UInt8) (sz ct : Nat) (L : Option Addr) (m d : Nat) (l : List It) (w : World) (hnm : nm.length ≤ 1000) (h : Dm w X S) (hg : LgAt w g X.d nm sz ct) (hgX : g ∉ X.foot) (hgN : NG ≤ g)
  (hsz : sz ≤ 1000000000000) (hct : ct ≤ 1000000000) (h0 : 0 < m) (hm : m ≤ 1000) (hq : Row w.heap.size w L m 5 (itc l)) (hk : ∀ x ∈ l, x.ok = true ∧ x.fit) :
  Calls Tryz.prog 30 #[.pointer (some ⟨g, 0, none⟩), .slice L m d] w (LpPost X g w nm sz ct (Lg.batch l).length (S.append nm (Lg.batch l))) := by
 have c4 := hg.cell 4
 simp only [gE0, gE1] at c4
 have hb := batch_any L m d l w h0 hm hq hk
 have hbl := Lg.batch_len l
 have hmn := hq.itlen
 have hgl := hg.lt
 have HB := Lib.hid hb
 have HD := Lib.hid h
 have HG := Lib.hid hg
 obtain ⟨R, hR⟩ : ∃ R, R = S.append nm (Lg.batch l) := ⟨_, rfl⟩
 obtain ⟨len, hlen⟩ : ∃ len, len = (Lg.batch l).length := ⟨_, rfl⟩
 rw [← hR, ← hlen]
 obtain ⟨S1, er⟩ := R
 have HR := Lib.hid hR
 have HLEN := Lib.hid hlen
 rw [← hlen] at hbl
 clear hb h hg hk hq hR hlen
 go_enter Tryz.func30, Tryz.ntmps30
 go_wp2_with fail
 refine HB.out.mono ?_
 rintro e w1 ⟨A1, M1, c1, rfl, ho1, hc1, hm1, hb1⟩
 have hML : M1 = len := by
  have := ho1.1
  rw [bts_length, ← HLEN.out] at this
  omega
 obtain ⟨A2, c2, hv, hqc, hqm, hlow⟩ := own_form ho1
 injection hv with e1 e2 e3
 subst e1 e3
 have hd1 := HD.out.below hb1
 have hg1 := HG.out.below hb1
 have hA : ∀ a, A1 = some a → a.block ∉ X.foot := fun a ha hm => by
  have h2 := (hlow a ha).1
  have h3 := HD.out.dk.lt _ hm
  omega
 have hap := (Acc.start (F := []) (hd1.below (w' := w1.drew) (below_drew (Below.refl _ _)))).append (str nm) (by rw [str_size]; unfold maxLen; omega) A1 M1 c1 (Lg.batch l) (by omega) (Row.own ho1) hA
 rw [str_data] at hap
 rw [← HR.out] at hap
 have hap2 : Calls Tryz.prog 84 #[.pointer (some ⟨X.d, 0, none⟩), .string (str nm), .slice A1 M1 c1] w1.drew fun e w' => e = .returned (.int .i64 (er : Int)) ∧ UpdM X w1 w' S1 := hap.mono fun e w' ⟨h1, X2, h2⟩ => ⟨h1, UpdM.drew h2.updM⟩
 subst hML
 have HG1 := Lib.hid hg1
 have HAP := Lib.hid hap2
 have HB1 := Lib.hid hb1
 clear hap hap2 hg1 hd1 ho1 hb1 hA hlow hqc hqm HB
 go_wp2_with fail
 refine wp_region_held_drew (S := fun w' => LgAt w' g X.d nm sz ct) rfl HG1.out.drew (fun hSw => ?_)
 refine wpT (i := 0) (v := ?vpu0) ?hpu0 hSw ?kpu0
 case hpu0 => (intro w hSw; (have c0 := hSw.cell 0; have c1 := hSw.cell 1; simp only [gE0, gE1] at c0 c1); go_simp; try (with_reducible rfl))
 go_simp
 refine wpT (i := 1) (v := ?vpu1) ?hpu1 hSw ?kpu1
 case hpu1 => (intro w hSw; (have c0 := hSw.cell 0; have c1 := hSw.cell 1; simp only [gE0, gE1] at c0 c1); go_simp; try (with_reducible rfl))
 go_simp
 refine wpT (i := 2) (v := ?vpu2) ?hpu2 hSw ?kpu2
 case hpu2 => (intro w hSw; (have c0 := hSw.cell 0; have c1 := hSw.cell 1; simp only [gE0, gE1] at c0 c1); go_simp; try (with_reducible rfl))
 go_simp
 refine wpT (i := 3) (v := ?vpu3) ?hpu3 hSw ?kpu3
 case hpu3 => (intro w hSw; (have c0 := hSw.cell 0; have c1 := hSw.cell 1; simp only [gE0, gE1] at c0 c1); go_simp; try (with_reducible rfl))
 go_simp
 refine wpT (i := 4) (v := ?vpu4) ?hpu4 hSw ?kpu4
 case hpu4 => (intro w hSw; (have c0 := hSw.cell 0; have c1 := hSw.cell 1; simp only [gE0, gE1] at c0 c1); go_simp; try (with_reducible rfl))
 go_simp
 refine wpT (i := 5) (v := ?vpu5) ?hpu5 hSw ?kpu5
 case hpu5 => (intro w hSw; (have c0 := hSw.cell 0; have c1 := hSw.cell 1; simp only [gE0, gE1] at c0 c1); go_simp; try (with_reducible rfl))
 go_simp
 refine wpT (i := 6) (v := ?vpu6) ?hpu6 hSw ?kpu6
 case hpu6 => (intro w hSw; (have c0 := hSw.cell 0; have c1 := hSw.cell 1; simp only [gE0, gE1] at c0 c1); go_simp; try (with_reducible rfl))
 go_simp
 refine wpT (i := 7) (v := ?vpu7) ?hpu7 hSw ?kpu7
 case hpu7 => (intro w hSw; (have c0 := hSw.cell 0; have c1 := hSw.cell 1; simp only [gE0, gE1] at c0 c1); go_simp; try (with_reducible rfl))
 go_simp
 refine wpT (i := 8) (v := ?vpu8) ?hpu8 hSw ?kpu8
 case hpu8 => (intro w hSw; (have c0 := hSw.cell 0; have c1 := hSw.cell 1; simp only [gE0, gE1] at c0 c1); go_simp; try (with_reducible rfl))
 go_simp
 refine wpAnyH_ready (rs := [9]) (by kernel_rfl) (by simp) ?_
 refine AllReadyH.cons rfl (fun K hK => ?_) AllReadyH.nil
 go_simp
 with_reducible refine HAP.out.mono ?_
 rintro e w3 ⟨rfl, hu⟩
 go_simp
 refine hK.out _ _ (LgAt.upd HG1.out hu hgX) (fun hSn => ?_)
 clear hK K hSw
 have hSw := hSn
 clear hSn
 go_simp
 refine wpT (i := 10) (v := ?vpu10) ?hpu10 hSw ?kpu10
 case hpu10 => (intro w hSw; (have c0 := hSw.cell 0; have c1 := hSw.cell 1; simp only [gE0, gE1] at c0 c1); go_simp; try (with_reducible rfl))
 go_simp
 refine wpAnyH_done (by kernel_rfl) ?_ _
 have hg3 := hSw
 clear hSw HAP
 have hcs : ∃ X', X'.d = X.d ∧ Dm w3 X' S1 ∧ Chg X.foot w w3 ∧ ∀ g ∈ X'.foot, g ∈ X.foot ∨ w.heap.size ≤ g := by
  obtain ⟨X2, q1, q2, q3, q4⟩ := hu
  refine ⟨X2, q1, q2, (Chg.of_below HB1.out X.foot).trans q3 (fun g hg => .inl hg), fun g hg => ?_⟩
  rcases q4 g hg with h1 | h1
  ·exact .inl h1
  ·exact .inr (Nat.le_trans HB1.out.size h1)
 have HC := Lib.hid hcs
 clear hcs hu
 by_cases he : er = 0
 ·subst he
  have d2 := hg3.cell 2
  have d3 := hg3.cell 3
  have f2 := hg3.free 2
  have f3 := hg3.free 3
  simp only [gE0, gE1] at d2 d3
  have hw2 : IntKind.i64.wrap ((sz : Int) + (M1 : Int)) = ((sz + M1 : Nat) : Int) := by rw [IntWalk.i64_in _ (by omega)]; omega
  have hg4 := hg3.store 2 (.int .i64 ((sz + M1 : Nat) : Int))
  have d34 := hg4.cell 3
  simp only [List.set_cons_zero, List.set_cons_succ, gE0, gE1] at d34 hg4
  have had := aiadd_any g 3 (ct : Int) (w3.setCell ⟨g, 2, none⟩ (.int .i64 ((sz + M1 : Nat) : Int))) (by omega) (by omega) d34 (hg4.free 3)
  have hg5 := hg4.store 3 (.int .i64 ((ct : Int) + 1))
  simp only [List.set_cons_zero, List.set_cons_succ] at hg5
  have hcg : Chg [g] w3 ((w3.setCell ⟨g, 2, none⟩ (.int .i64 ((sz + M1 : Nat) : Int))).setCell ⟨g, 3, none⟩ (.int .i64 ((ct : Int) + 1))) := ((Chg.refl _ w3).setCell _ (.inl (by simp))).setCell _ (.inl (by simp))
  have hfin : LpPost X g w nm sz ct M1 (S1, 0) (.returned (.int .i64 0)) ((w3.setCell ⟨g, 2, none⟩ (.int .i64 ((sz + M1 : Nat) : Int))).setCell ⟨g, 3, none⟩ (.int .i64 ((ct : Int) + 1))) := by
   obtain ⟨X2, q1, q2, q3, q4⟩ := HC.out
   have hgX2 : g ∉ X2.foot := fun hm => by
    rcases q4 g hm with h1 | h1
    ·exact hgX h1
    ·omega
   refine ⟨rfl, X2, q1, q2.chg hcg (fun x hx => by rw [List.mem_singleton.1 hx]; exact ⟨hgX2, hgN⟩), (q3.mono (fun x hx => .inl (List.mem_cons_of_mem _ hx))).trans hcg (fun x hx => .inl (by rw [List.mem_singleton.1 hx]; exact List.mem_cons_self)), q4, ?_⟩
   rw [if_pos rfl]
   exact hg5
  have HAD := Lib.hid had
  have HFIN := Lib.hid hfin
  clear had hfin hcg hg5 hg4 hg3 d34 HC
  go_wp2_with fail
  refine HAD.out.mono ?_
  rintro e w4 ⟨rfl, rfl⟩
  go_wp2
  go_ret
  exact HFIN.out
 ·have he3 : ((er : Int) == 0) = false := by simp; omega
  have hfin : LpPost X g w nm sz ct M1 (S1, er) (.returned (.int .i64 (er : Int))) w3 := by
   obtain ⟨X2, q1, q2, q3, q4⟩ := HC.out
   refine ⟨rfl, X2, q1, q2, q3.mono (fun x hx => .inl (List.mem_cons_of_mem _ hx)), q4, ?_⟩
   rw [if_neg he]
   exact hg3
  have HFIN := Lib.hid hfin
  clear hfin hg3 HC
  go_wp2
  go_ret
  exact HFIN.out
end
end Go.Proofs.YtdkjoigpahafmaaGreatDoor
namespace Go.Proofs.YtdkjoigpahafmaaGreatDoor
open Go Go.RowKit Go.Shelf
end Go.Proofs.YtdkjoigpahafmaaGreatDoor
namespace Go.Proofs
open Go Go.RowKit Go.Shelf
end Go.Proofs
namespace Go.Proofs.YtdkjoigpahafmaaGreatDoor
open Go Go.RowKit Go.Shelf
def IRows (B : Nat) (w : World) (P : Option Addr) (n : Nat) (ls : List (List It)) : Prop :=
 ∃ vs, Row B w P n 1 vs ∧ ls.length = n ∧ ∀ i (h : i < ls.length), ∃ A k c, vs[i]? = some (.slice A k c) ∧ k ≤ c ∧ c ≤ maxLen ∧ Row B w A k 5 (itc ls[i])
theorem IRows.at_ {B : Nat} {w : World} {P : Option Addr} {n : Nat} {ls : List (List It)} (h : IRows B w P n ls) {i : Nat} (hi : i < n) :
  ∃ a A k c, ∃ hl : i < ls.length, P = some a ∧ a.block < B ∧ w.cell? (a.add i) = some (.slice A k c) ∧ k ≤ c ∧ c ≤ maxLen ∧ Row B w A k 5 (itc ls[i]) := by
 obtain ⟨vs, hr, hl, hf⟩ := h
 obtain ⟨a, v, e, b, hv, hc⟩ := hr.at1 hi
 obtain ⟨A, k, c, h1, h2, h3, h4⟩ := hf i (by omega)
 rw [h1] at hv
 injection hv with hv
 exact ⟨a, A, k, c, by omega, e, b, by rw [hc, ← hv], h2, h3, h4⟩
theorem IRows.below {B : Nat} {w w' : World} {P : Option Addr} {n : Nat} {ls : List (List It)} (h : IRows B w P n ls) (hb : Below B w w') : IRows B w' P n ls := by
 obtain ⟨vs, hr, hl, hf⟩ := h
 exact ⟨vs, hr.below hb, hl, fun i hi => let ⟨A, k, c, h1, h2, h3, h4⟩ := hf i hi; ⟨A, k, c, h1, h2, h3, h4.below hb⟩⟩
theorem IRows.up {B B' : Nat} {w : World} {P : Option Addr} {n : Nat} {ls : List (List It)} (h : IRows B w P n ls) (hb : B ≤ B') : IRows B' w P n ls := by
 obtain ⟨vs, hr, hl, hf⟩ := h
 exact ⟨vs, hr.up hb, hl, fun i hi => let ⟨A, k, c, h1, h2, h3, h4⟩ := hf i hi; ⟨A, k, c, h1, h2, h3, h4.up hb⟩⟩
theorem IRows.len {B : Nat} {w : World} {P : Option Addr} {n : Nat} {ls : List (List It)} (h : IRows B w P n ls) : ls.length = n := by
 obtain ⟨_, _, hl, _⟩ := h
 exact hl
end Go.Proofs.YtdkjoigpahafmaaGreatDoor
namespace Go.Proofs.YtdkjoigpahafmaaGreatDoor
section
open Go Go.RowKit Go.Lib Go.Shelf
attribute [local go_sem] Oper.semAt_some
abbrev Ck (m len : Nat) : Type := { x : Nat // x * m < len }
def Ck.len {m len : Nat} (x : Ck m len) : Nat := min m (len - x.1 * m)
def Ck.val (p : Addr) {m len : Nat} (x : Ck m len) : Value := .slice (some (p.add (x.1 * m * 5))) x.len x.len
def Ck.of (l : List It) {m len : Nat} (x : Ck m len) : List It := (l.drop (x.1 * m)).take m
theorem cut_next {m len k f : Nat} {L : List It} {pre : List (Ck m len)} (hm : 1 ≤ m) (hL : L.length = len) (hk : k * m < len) (h1 : (L.drop (k * m)).length ≤ f) (h2 : pre.map (Ck.of L) ++ Tb.cut m f (L.drop (k * m)) = Tb.cut m len L) :
  ∃ f', (L.drop ((k + 1) * m)).length ≤ f' ∧ (pre ++ [(⟨k, hk⟩ : Ck m len)]).map (Ck.of L) ++ Tb.cut m f' (L.drop ((k + 1) * m)) = Tb.cut m len L := by
 have hkm : (k + 1) * m = k * m + m := Nat.succ_mul k m
 rw [List.length_drop] at h1
 obtain ⟨f', rfl⟩ : ∃ f', f = f' + 1 := ⟨f - 1, by omega⟩
 refine ⟨f', by rw [List.length_drop, hkm]; omega, ?_⟩
 have hne : L.drop (k * m) ≠ [] := fun e => by
  have := congrArg List.length e
  rw [List.length_drop] at this
  simp at this
  omega
 rw [← h2, Tb.cut, if_neg hne, List.drop_drop, hkm, List.map_append, List.append_assoc]
 rfl
theorem chunk1_in (F : Fence) (n : Nat) (h7 : F.fn 176) (hro : F.round = none) (hn : 1 ≤ n) (l Bs Bn : Nat) (Kp : World → World → Prop) (hKc : ∀ W W', Kp W W' → W'.cell? ⟨Bs, 0, none⟩ = W.cell? ⟨Bs, 0, none⟩ ∧ W'.cell? ⟨Bn, 0, none⟩ = W.cell? ⟨Bn, 0, none⟩) (p : Addr) (len cap m : Nat) (L : List It) (hL : L.length = len) (hm : 1 ≤ m) (hm2 : m ≤ 1000) (hlen : len ≤ 100000) (hcap : len ≤ cap) (J Jx : List (Ck m len) → World → Prop)
  (hJd : ∀ pre W, J pre W → J pre W.drew) (hY : ∀ pre x W, J pre W → pre.length * m < len → YieldAt F (n - 1) Tryz.prog l #[Ck.val p x] W fun e W' =>
   (e = .returned (.bool true) ∧ J (pre ++ [x]) W' ∧ Kp W W') ∨ (e = .returned (.bool false) ∧ Jx (pre ++ [x]) W'))
  (W : World) (hBs : W.cell? ⟨Bs, 0, none⟩ = some (.slice (some p) len cap)) (hBn : W.cell? ⟨Bn, 0, none⟩ = some (.int .i64 (m : Int))) (h0 : J [] W) :
  CallsIn F n Tryz.prog 176 #[.func (.yield l) #[] #[], .pointer (some ⟨Bs, 0, none⟩), .pointer (some ⟨Bn, 0, none⟩)] W fun e W' => (∃ v, e = .returned v) ∧
   ((∃ ys, ys.map (Ck.of L) = Tb.cut m len L ∧ J ys W') ∨ (∃ pre, Jx pre W')) := by
 refine callsIn_of_wp Tryz.func176 rfl h7 ?_ hro
 simp only [Tryz.ntmps176, List.size_toArray, List.length_cons, List.length_nil, Nat.reduceAdd, Nat.reduceSub, Array.replicate_succ, Array.replicate_zero, List.push_toArray, List.append_toArray, List.nil_append, List.cons_append]
 gi_wp2
 gi_loopw [4] (fun i wr => ∃ (k f : Nat) (pre : List (Ck m len)), i = .int .i64 ((k * m : Nat) : Int) ∧ k * m ≤ len + m ∧ Hid (pre.length = k ∧ (L.drop (k * m)).length ≤ f ∧ pre.map (Ck.of L) ++ Tb.cut m f (L.drop (k * m)) = Tb.cut m len L) ∧ J pre wr ∧ wr.cell? ⟨Bs, 0, none⟩ = some (.slice (some p) len cap) ∧ wr.cell? ⟨Bn, 0, none⟩ = some (.int .i64 (m : Int)))
  (fun i _ => len - (intOf i).toNat)
 case atStart => exact ⟨0, len, [], by simp, by simp, Lib.hid ⟨rfl, by simp [hL], by simp⟩, h0, hBs, hBn⟩
 case round =>
  obtain ⟨k, f, pre, rfl, hkb, HK, hJs, hs1, hs2⟩ := hrel
  obtain ⟨q, hq⟩ : ∃ q, q = k * m := ⟨_, rfl⟩
  rw [← hq] at HK hkb ⊢
  by_cases hlt : q < len
  ·have hlti : (q : Int) < (len : Int) := by omega
   have hkl : k * m < len := by rw [← hq]; exact hlt
   obtain ⟨e, he⟩ : ∃ e, e = min m (len - q) := ⟨_, rfl⟩
   have he0 : 0 < e := by omega
   have he0i : (0 : Int) < (e : Int) := by omega
   have hel : q + e ≤ len := by omega
   have heli : (q : Int) + (e : Int) ≤ (len : Int) := by omega
   have hqe : (q : Int) ≤ (q : Int) + (e : Int) := by omega
   have hle : (q : Int) + (e : Int) ≤ (cap : Int) := by omega
   have hwe : IntKind.i64.wrap ((q : Int) + (e : Int)) = ((q + e : Nat) : Int) := by rw [IntWalk.i64_in _ (by omega)]; omega
   have hmin : min (m : Int) ((len - q : Nat) : Int) = (e : Int) := by omega
   obtain ⟨fn, tmps, assign, body, hy, hR⟩ := hY pre ⟨k, hkl⟩ wr.drew (hJd _ _ hJs) (by rw [HK.out.1]; exact hkl)
   have hv : Ck.val p (⟨k, hkl⟩ : Ck m len) = .slice (some (p.add (q * 5))) e e := by
    unfold Ck.val Ck.len
    simp only
    rw [← hq, ← he]
   rw [hv] at hy
   have hcne : (cap = q) = False := eq_false (by omega)
   have hcne2 : (e = 0) = False := eq_false (by omega)
   have HST := Lib.hid (show ∃ f', (L.drop ((k + 1) * m)).length ≤ f' ∧ (pre ++ [(⟨k, hkl⟩ : Ck m len)]).map (Ck.of L) ++ Tb.cut m f' (L.drop ((k + 1) * m)) = Tb.cut m len L from cut_next hm hL hkl (by rw [← hq]; exact HK.out.2.1) (by rw [← hq]; exact HK.out.2.2))
   have HPL := Lib.hid HK.out.1
   have hkm : (k + 1) * m = q + m := by rw [hq]; exact Nat.succ_mul k m
   have hwqm : IntKind.i64.wrap ((q : Int) + (m : Int)) = ((q + m : Nat) : Int) := by rw [IntWalk.i64_in _ (by omega)]; omega
   have HKM := Lib.hid hkm
   have HR := Lib.hid hR
   have HE := Lib.hid (And.intro he hq)
   clear hR hv he hq hY hkm HK
   gi_wp2
   gi_region
   all_goals gi_wp2
   all_goals
    refine HR.out.mono ?_
    rintro e' W3 (⟨rfl, hJ3, hk3⟩ | ⟨rfl, hJx3⟩)
    ·have hs4 : W3.cell? ⟨Bs, 0, none⟩ = some (.slice (some p) len cap) := (hKc _ _ hk3).1.trans hs1
     have hs3 : W3.cell? ⟨Bn, 0, none⟩ = some (.int .i64 (m : Int)) := (hKc _ _ hk3).2.trans hs2
     clear hk3
     gi_wp2
     go_roundw
     case rel =>
      obtain ⟨f', z1, z2⟩ := HST.out
      exact ⟨k + 1, f', pre ++ [⟨k, hkl⟩], by rw [HKM.out]; go_num, by rw [HKM.out]; omega, Lib.hid ⟨by rw [List.length_append, HPL.out]; rfl, z1, z2⟩, hJ3, hs4, hs3⟩
     case measure => simp [intOf]; omega
    ·gi_wp2
     refine bodyPost_ret (results_none rfl _ _ _) rfl ?_
     exact ⟨⟨_, rfl⟩, .inr ⟨_, hJx3⟩⟩
  ·have hlti : ((q : Int) < (len : Int)) = False := eq_false (by omega)
   have hfin : pre.map (Ck.of L) = Tb.cut m len L := by
    have h1 := HK.out.2.2
    rw [List.drop_eq_nil_of_le (by omega)] at h1
    rw [← h1]
    cases f <;> simp [Tb.cut]
   have HFIN := Lib.hid hfin
   clear hfin HK hq
   gi_wp2
   go_end0
   exact ⟨⟨_, rfl⟩, .inl ⟨_, HFIN.out, hJs⟩⟩
theorem chunk_in (F : Fence) (n : Nat) (h5 : F.fn 106) (hro : F.round = none) (a : Option Addr) (len cap m : Nat) (hm : 1 ≤ m) (w : World) :
  CallsIn F n Tryz.prog 106 #[.slice a len cap, .int .i64 (m : Int)] w fun e w' => e = .returned (.func (.func 176) #[] #[.pointer (some ⟨w.heap.size, 0, none⟩), .pointer (some ⟨w.heap.size + 1, 0, none⟩)]) ∧ w' = (w.alloc (.cells #[.slice a len cap] 24)).alloc (.cells #[.int .i64 (m : Int)] 3) := by
 have h1 : ((m : Int) < 1) = False := eq_false (by omega)
 refine callsIn_of_wp Tryz.func106 rfl h5 ?_ hro
 simp only [Tryz.ntmps106, List.size_toArray, List.length_cons, List.length_nil, Nat.reduceAdd, Nat.reduceSub, Array.replicate_succ, Array.replicate_zero, List.push_toArray, List.append_toArray, List.nil_append, List.cons_append]
 gi_wp2
 go_ret
 exact ⟨rfl, rfl⟩
end
section
open Go Go.RowKit Go.Lib Go.Shelf
attribute [local go_sem] Oper.semAt_some
def Kp3 (n₀ a b : Nat) (W W' : World) : Prop := Below n₀ W W' ∧ W'.heap[a]? = W.heap[a]? ∧ W'.heap[b]? = W.heap[b]?
theorem Kp3.trans {n₀ a b : Nat} {A B C : World} (h : Kp3 n₀ a b A B) (k : Kp3 n₀ a b B C) : Kp3 n₀ a b A C := ⟨h.1.trans k.1, k.2.1.trans h.2.1, k.2.2.trans h.2.2⟩
theorem Kp3.cell {n₀ a b : Nat} (W W' : World) (h : Kp3 n₀ a b W W') : W'.cell? ⟨a, 0, none⟩ = W.cell? ⟨a, 0, none⟩ ∧ W'.cell? ⟨b, 0, none⟩ = W.cell? ⟨b, 0, none⟩ := ⟨World.cell?_of_block h.2.1, World.cell?_of_block h.2.2⟩
theorem own_ne {W : World} {base : Nat} {e : TypeId} {size n : Nat} {v : Value} {xs : List Value} (h : W.ownsRow base e size v n xs) {row : Option Nat} (hr : ∀ r, row = some r → ∀ cs fr, W.heap[r]? ≠ some (.cells cs e fr)) : v.ownBlock = none ∨ v.ownBlock ≠ row := by
 rcases h.2 with ⟨rfl, _⟩ | ⟨g, cap, cur, rfl, hb, hgb, _⟩
 ·exact .inl rfl
 ·exact .inr fun e' => hr g (by simpa [Value.ownBlock] using e'.symm) _ _ hgb
def Cuts {m len : Nat} (n₀ : Nat) (W : World) (L : List It) (v : Value) (pre : List (Ck m len)) : Prop := ∃ vs, W.ownsRow n₀ 24 1 v pre.length vs ∧ ∀ i (h : i < pre.length), ∃ A k c, vs[i]? = some (.slice A k c) ∧ k ≤ c ∧ c ≤ maxLen ∧ W.ownsRow n₀ 27 5 (.slice A k c) k (itc (Ck.of L pre[i]))
theorem Cuts.kept {m len n₀ : Nat} {W W' : World} {L : List It} {v : Value} {pre : List (Ck m len)} (h : Cuts n₀ W L v pre) {row : Option Nat} (hg : W.grownBy W' row) (hr : ∀ r, row = some r → ∀ cs fr, W.heap[r]? ≠ some (.cells cs 24 fr) ∧ W.heap[r]? ≠ some (.cells cs 27 fr)) : Cuts n₀ W' L v pre := by
 obtain ⟨vs, h1, h2⟩ := h
 refine ⟨vs, h1.kept hg (own_ne h1 fun r e cs fr => (hr r e cs fr).1), fun i hi => ?_⟩
 obtain ⟨A, k, c, z1, z2, z3, z4⟩ := h2 i hi
 exact ⟨A, k, c, z1, z2, z3, z4.kept hg (own_ne z4 fun r e cs fr => (hr r e cs fr).2)⟩
theorem Cuts.more {m len n₀ : Nat} {W W' : World} {L : List It} {v v' : Value} {vs : List Value} {pre : List (Ck m len)} {x : Ck m len} {A : Option Addr} {k c : Nat} (h : ∀ i (h : i < pre.length), ∃ A k c, vs[i]? = some (.slice A k c) ∧ k ≤ c ∧ c ≤ maxLen ∧ W.ownsRow n₀ 27 5 (.slice A k c) k (itc (Ck.of L pre[i]))) (hl : vs.length = pre.length) (hg : W.grownBy W' v.ownBlock) (hv : W.ownsRow n₀ 24 1 v pre.length vs)
  (hk : k ≤ c) (hc : c ≤ maxLen) (ho : W.ownsRow n₀ 27 5 (.slice A k c) k (itc (Ck.of L x))) (hv' : W'.ownsRow n₀ 24 1 v' (pre.length + 1) (vs ++ [.slice A k c])) : Cuts n₀ W' L v' (pre ++ [x]) := by
 have hne : ∀ r, v.ownBlock = some r → ∀ cs fr, W.heap[r]? ≠ some (.cells cs 27 fr) := by
  intro r hr cs fr e
  rcases hv.2 with ⟨rfl, _⟩ | ⟨g, cap, cur, rfl, hb, hgb, _⟩
  ·simp [Value.ownBlock] at hr
  ·obtain rfl : g = r := by simpa [Value.ownBlock] using hr
   rw [hgb] at e
   injection e with e
   injection e with _ e
   exact absurd e (by decide)
 refine ⟨vs ++ [.slice A k c], by rw [List.length_append]; exact hv', fun i hi => ?_⟩
 rw [List.length_append] at hi
 rcases Nat.lt_or_ge i pre.length with h1 | h1
 ·obtain ⟨A, k, c, z1, z2, z3, z4⟩ := h i h1
  refine ⟨A, k, c, by rw [List.getElem?_append_left (by omega)]; exact z1, z2, z3, ?_⟩
  rw [List.getElem_append_left h1]
  exact z4.kept hg (own_ne z4 hne)
 ·have h2 : i = pre.length := by simp at hi; omega
  subst h2
  refine ⟨A, k, c, by rw [← hl]; simp, hk, hc, ?_⟩
  rw [List.getElem_append_right (Nat.le_refl _)]
  simp only [Nat.sub_self, List.getElem_cons_zero]
  exact ho.kept hg (own_ne ho hne)
theorem Cuts.rows {m len n₀ : Nat} {W : World} {L : List It} {A : Option Addr} {n c : Nat} {pre : List (Ck m len)} (h : Cuts n₀ W L (.slice A n c) pre) : n = pre.length ∧ IRows W.heap.size W A n (pre.map (Ck.of L)) := by
 obtain ⟨vs, h1, h2⟩ := h
 have hn : n = pre.length := by
  rcases h1.2 with ⟨e, e2⟩ | ⟨g, cap, cur, e, _⟩
  ·injection e with _ e _
   omega
  ·injection e
 subst hn
 refine ⟨rfl, vs, Row.own h1, by simp, fun i hi => ?_⟩
 rw [List.length_map] at hi
 obtain ⟨A, k, c, z1, z2, z3, z4⟩ := h2 i hi
 exact ⟨A, k, c, z1, z2, z3, by rw [List.getElem_map]; exact Row.own z4⟩
end
section
open Go Go.RowKit Go.Lib
end
section
open Go Go.RowKit Go.Lib
structure BlAt (w : World) (f g : Nat) (b : List UInt8) : Prop where
 box : BoxO w 330 f [.int .i64 7, .slice (some ⟨g, 0, none⟩) b.length b.length]
 bits : BoxO w 5 g (bts b)
 ne : f ≠ g
theorem BlAt.below {w w' : World} {f g : Nat} {b : List UInt8} (h : BlAt w f g b) (hb : Below w.heap.size w w') : BlAt w' f g b := ⟨h.box.below hb, h.bits.below hb, h.ne⟩
theorem BlAt.chg {F : List Nat} {w w' : World} {f g : Nat} {b : List UInt8} (h : BlAt w f g b) (hb : Chg F w w') (h1 : f ∉ F) (h2 : g ∉ F) : BlAt w' f g b := ⟨h.box.chg hb h1, h.bits.chg hb h2, h.ne⟩
end
end Go.Proofs.YtdkjoigpahafmaaGreatDoor
