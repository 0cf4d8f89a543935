/- Texts Once, OnceB, ManC in one. No conditions. -/
import Derived.Test.YthepokgkfaocmaaGreatDoorBunB
import Derived.Test.YthepokgkfaocmaaGreatDoorRows
import Derived.Tactics
import Derived.Tactics2
import Derived.Defers
import Derived.Laws.Pointers
import Derived.Laws.LoneSync
import Derived.Laws.NewBlocks
import Derived.RegionTactic
import Derived.RegionCalls
import Derived.ChangeAlike
import Derived.Test.YthepokgkfaocmaaGreatDoorBunL

/-
  The walks of sync.Once for a manifest's Break: the two parts that doSlow defers, doSlow, Do, Break. (Turned from the guide's worked walk over a lazy value.)
-/
namespace Go.Proofs.YthepokgkfaocmaaGreatDoor
open Go Go.RowKit
namespace Once


set_option maxRecDepth 100000 in
set_option maxHeartbeats 1600000 in
theorem disable (w : World) : (callFunc 165 #[]).run Tryz.prog w = .ok (.value (.tuple #[])) w := run_call_mark0 Tryz.func165 (by kernel_rfl) (by kernel_rfl) (by kernel_rfl) .disable (by kernel_rfl) w
set_option maxRecDepth 100000 in
set_option maxHeartbeats 1600000 in
theorem enable (w : World) : (callFunc 167 #[]).run Tryz.prog w = .ok (.value (.tuple #[])) w := run_call_mark0 Tryz.func167 (by kernel_rfl) (by kernel_rfl) (by kernel_rfl) .enable (by kernel_rfl) w
set_option maxRecDepth 100000 in
set_option maxHeartbeats 1600000 in
theorem acquire (a : Addr) (w : World) : (callFunc 168 #[.pointer (some a)]).run Tryz.prog w = .ok (.value (.tuple #[])) w := run_call_marked Tryz.func168 (by kernel_rfl) (by kernel_rfl) (by kernel_rfl) .acquire (by kernel_rfl) a w
set_option maxRecDepth 100000 in
set_option maxHeartbeats 1600000 in
theorem releaseMerge (a : Addr) (w : World) : (callFunc 170 #[.pointer (some a)]).run Tryz.prog w = .ok (.value (.tuple #[])) w := run_call_marked Tryz.func170 (by kernel_rfl) (by kernel_rfl) (by kernel_rfl) .releaseMerge (by kernel_rfl) a w

set_option maxRecDepth 100000 in
set_option maxHeartbeats 1600000 in
theorem store_deferred (a : Addr) (x : Value) (u : FrameMode) (w : World) (hc : w.cell? a = some x) (hz : w.frozen? a = false) :
    CallsD Tryz.prog 126 #[.pointer (some a), .bool true] u w fun e u' w' => u' = u ∧ (e = .returned (.tuple #[]) ∧ w' = w.drew.setCell a (.int .u32 1)) := by
  have hc' : w.drew.cell? a = some x := by go_simp
  have hz' : w.drew.frozen? a = false := by go_simp
  have hst := run_call_store (P := Tryz.prog) Tryz.func150 (by kernel_rfl) (by kernel_rfl) (by kernel_rfl) (by kernel_rfl) (k := .u32) (y := 1) hc' hz'
  go_enter_d Tryz.func126, Tryz.ntmps126
  go_wp2
  go_region_calls
  all_goals (go_end0; exact ⟨rfl, rfl⟩)

set_option maxRecDepth 100000 in
set_option maxHeartbeats 1600000 in
theorem unlock_deferred (a : Addr) (u : FrameMode) (w : World) (hc : w.cell? a = some (.int .i32 1)) (hz : w.frozen? a = false) :
    CallsD Tryz.prog 125 #[.pointer (some a)] u w fun e u' w' => u' = u ∧ (e = .returned (.tuple #[]) ∧ w' = w.setCell a (.int .i32 0)) := by
  have hd := disable
  have he := enable
  have hr := releaseMerge
  have hadd := run_call_add (P := Tryz.prog) Tryz.func171 (by kernel_rfl) (by kernel_rfl) (by kernel_rfl) .i32 (by kernel_rfl) (y := -1) (s := 0) hc hz (by simp [go_sem]; rfl)
  have hcv := run_convert_to_unsafe (P := Tryz.prog) (src := 233) (dst := 237) Tryz.underlying233 Tryz.underlying237 (by kernel_rfl) hc
  go_enter_d Tryz.func125, Tryz.ntmps125
  go_wp2
  go_end0
  go_wp2
  go_end0
  exact ⟨rfl, rfl⟩

set_option maxRecDepth 100000 in
set_option maxHeartbeats 1600000 in
theorem lock_free (a : Addr) (w : World) (hc : w.cell? a = some (.int .i32 0)) (hz : w.frozen? a = false) :
    Calls Tryz.prog 124 #[.pointer (some a)] w fun e w' => e = .returned (.tuple #[]) ∧ w' = w.setCell a (.int .i32 1) := by
  have hd := disable
  have he := enable
  have ha := acquire
  have hcas := run_call_cas_hit (P := Tryz.prog) Tryz.func166 (by kernel_rfl) (by kernel_rfl) (by kernel_rfl) .i32 (by kernel_rfl) (y := 1) hc hz
  have hc' : (w.setCell a (.int .i32 1)).cell? a = some (.int .i32 1) := World.cell?_setCell_same w a _ hc
  have hcv := run_convert_to_unsafe (P := Tryz.prog) (src := 233) (dst := 237) Tryz.underlying233 Tryz.underlying237 (by kernel_rfl) hc'
  go_enter Tryz.func124, Tryz.ntmps124
  go_wp2
  first | go_end0 | (simp only [Exit.inBlock, Exit.then]; refine bodyPost_ret (results_none rfl _ _ _) rfl ?_) | refine bodyPost_ret (results_none rfl _ _ _) rfl ?_
  go_wp2
  go_end0
  exact ⟨rfl, rfl⟩


end Once
end Go.Proofs.YthepokgkfaocmaaGreatDoor

/-
  The walks of sync.Once for a manifest's Break, more: doSlow, Do, Break. (Turned from the guide's worked walk over a lazy value.)
-/
namespace Go.Proofs.YthepokgkfaocmaaGreatDoor
open Go Go.RowKit
namespace Once
set_option maxRecDepth 100000 in
set_option maxHeartbeats 1600000 in
theorem slow_any (b : Nat) (pl : Addr) (hpb : ¬ b = pl.block) (x3 : Value) (w : World) (hp : w.cell? pl = some (.pointer (some ⟨b, 0, none⟩)))
    (h0 : w.cell? ⟨b, 9, none⟩ = some (.int .u32 0)) (h1 : w.cell? ⟨b, 10, none⟩ = some (.int .i32 0)) (h3 : w.cell? ⟨b, 12, none⟩ = some x3)
    (f0 : w.frozen? ⟨b, 9, none⟩ = false) (f1 : w.frozen? ⟨b, 10, none⟩ = false) (f3 : w.frozen? ⟨b, 12, none⟩ = false) :
    Calls Tryz.prog 103 #[.pointer (some ⟨b, 9, none⟩), .func (.func 79) #[] #[.pointer (some pl)]] w fun e w' => e = .returned (.tuple #[]) ∧
      w' = (((w.setCell ⟨b, 10, none⟩ (.int .i32 1)).setCell ⟨b, 12, none⟩ (.bool true)).drew.setCell ⟨b, 9, none⟩ (.int .u32 1)).setCell ⟨b, 10, none⟩ (.int .i32 0) := by
  have hl := run_call_load (P := Tryz.prog) Tryz.func123 (by kernel_rfl) (by kernel_rfl) (by kernel_rfl) .u32 (by kernel_rfl) (w := w.setCell ⟨b, 10, none⟩ (.int .i32 1)) (a := ⟨b, 9, none⟩) (x := 0) ((World.cell?_setCell_other _ ⟨b, 10, none⟩ ⟨b, 9, none⟩ _ (by simp)).trans h0)
  have hp1 : (w.setCell ⟨b, 10, none⟩ (.int .i32 1)).cell? pl = some (.pointer (some ⟨b, 0, none⟩)) := (World.cell?_setCell_other _ ⟨b, 10, none⟩ pl _ (fun h => hpb (by rw [← h]))).trans hp
  have h31 : (w.setCell ⟨b, 10, none⟩ (.int .i32 1)).cell? ⟨b, 12, none⟩ = some x3 := (World.cell?_setCell_other _ ⟨b, 10, none⟩ ⟨b, 12, none⟩ _ (by simp)).trans h3
  have hnot : ∀ (x : Bool) (w : World), (Op.unary .not (.bool x)).run Tryz.prog w = .ok (.bool (!x)) w := fun _ _ => rfl
  go_enter_defers Tryz.func103, Tryz.ntmps103
  go_wp2_with (go_at_call 124; refine (lock_free ⟨b, 10, none⟩ _ (by go_simp) (by go_simp)).mono ?_; rintro e w' ⟨rfl, rfl⟩)
  go_wp2
  go_end0
  go_wp2
  -- THE DOOR: two deferred calls, the last laid first
  refine leaves_cons (f := 126) (args := #[.pointer (some ⟨b, 9, none⟩), .bool true]) (by simp) (by simp [go_sem]) ?_
  refine (store_deferred ⟨b, 9, none⟩ (.int .u32 0) .returning _ ?_ (by simp [f0])).mono ?_
  · exact (World.cell?_setCell_other _ ⟨b, 12, none⟩ ⟨b, 9, none⟩ _ (by simp)).trans ((World.cell?_setCell_other _ ⟨b, 10, none⟩ ⟨b, 9, none⟩ _ (by simp)).trans h0)
  rintro e u' w'' ⟨rfl, rfl, rfl⟩
  refine leaves_cons (f := 125) (args := #[.pointer (some ⟨b, 10, none⟩)]) (by simp [settle]) (by simp [go_sem]) ?_
  refine (unlock_deferred ⟨b, 10, none⟩ _ _ ?_ (by simp [f1])).mono ?_
  · refine (World.cell?_setCell_other _ ⟨b, 9, none⟩ ⟨b, 10, none⟩ _ (by simp)).trans ?_
    rw [World.cell?_drew]
    exact (World.cell?_setCell_other _ ⟨b, 12, none⟩ ⟨b, 10, none⟩ _ (by simp)).trans (World.cell?_setCell_same w _ _ h1)
  rintro e u' w'' ⟨rfl, rfl, rfl⟩
  simp [Leaves, settle, results, Tryz.results103]


set_option maxRecDepth 100000 in
set_option maxHeartbeats 1600000 in
theorem do_first (b : Nat) (pl : Addr) (hpb : ¬ b = pl.block) (x3 : Value) (w : World) (hp : w.cell? pl = some (.pointer (some ⟨b, 0, none⟩)))
    (h0 : w.cell? ⟨b, 9, none⟩ = some (.int .u32 0)) (h1 : w.cell? ⟨b, 10, none⟩ = some (.int .i32 0)) (h3 : w.cell? ⟨b, 12, none⟩ = some x3)
    (f0 : w.frozen? ⟨b, 9, none⟩ = false) (f1 : w.frozen? ⟨b, 10, none⟩ = false) (f3 : w.frozen? ⟨b, 12, none⟩ = false) :
    Calls Tryz.prog 78 #[.pointer (some ⟨b, 9, none⟩), .func (.func 79) #[] #[.pointer (some pl)]] w fun e w' => e = .returned (.tuple #[]) ∧ w' = ((((w.setCell ⟨b, 10, none⟩ (.int .i32 1)).setCell ⟨b, 12, none⟩ (.bool true)).drew.setCell ⟨b, 9, none⟩ (.int .u32 1)).setCell ⟨b, 10, none⟩ (.int .i32 0)) := by
  have hl := run_call_load (P := Tryz.prog) Tryz.func123 (by kernel_rfl) (by kernel_rfl) (by kernel_rfl) .u32 (by kernel_rfl) h0
  have hnot : ∀ (x : Bool) (w : World), (Op.unary .not (.bool x)).run Tryz.prog w = .ok (.bool (!x)) w := fun _ _ => rfl
  go_enter Tryz.func78, Tryz.ntmps78
  go_wp2_with (first | (go_at_call 103; refine (slow_any b pl hpb x3 _ hp h0 h1 h3 f0 f1 f3).mono ?_; rintro e w' ⟨rfl, rfl⟩) | (go_at_call 102; go_in))
  go_end0
  exact ⟨rfl, rfl⟩

set_option maxRecDepth 100000 in
set_option maxHeartbeats 1600000 in
theorem do_done (a : Addr) (d : Int) (hd : ¬ d = 0) (fv : Value) (w : World) (h0 : w.cell? a = some (.int .u32 d)) :
    Calls Tryz.prog 78 #[.pointer (some a), fv] w fun e w' => e = .returned (.tuple #[]) ∧ w' = w := by
  have hl := run_call_load (P := Tryz.prog) Tryz.func123 (by kernel_rfl) (by kernel_rfl) (by kernel_rfl) .u32 (by kernel_rfl) h0
  have hnot : ∀ (x : Bool) (w : World), (Op.unary .not (.bool x)).run Tryz.prog w = .ok (.bool (!x)) w := fun _ _ => rfl
  have hd' : (d != 0) = true := by simp [hd]
  go_enter Tryz.func78, Tryz.ntmps78
  go_wp2
  go_end0
  exact ⟨rfl, rfl⟩


end Once
end Go.Proofs.YthepokgkfaocmaaGreatDoor

/-
  A manifest in memory; what has become of a disk since a world; the disk's calls in these words; Break.
-/
namespace Go.Proofs.YthepokgkfaocmaaGreatDoor
open Go Go.RowKit Go.Shelf

/-- From w on, where a disk lay as X says, blocks of F and the disk's alone have changed; now it is S, as X' says. -/
structure Acc (F : List Nat) (X : Dw) (w : World) (S : Sd) (w' : World) (X' : Dw) : Prop where
  e : X'.d = X.d
  dm : Dm w' X' S
  c : Chg (F ++ X.foot) w w'
  f : ∀ g ∈ X'.foot, g ∈ X.foot ∨ w.heap.size ≤ g

variable {F : List Nat} {X X1 : Dw} {w w1 w2 : World} {S S1 : Sd}
theorem Acc.start (h : Dm w X S) : Acc F X w S w X := ⟨rfl, h, Chg.refl _ _, fun _ hg => .inl hg⟩
theorem Acc.below (h : Acc F X w S w1 X1) (hb : Below w1.heap.size w1 w2) : Acc F X w S w2 X1 := ⟨h.e, h.dm.below hb, h.c.trans (Chg.of_below hb []) (fun g hg => by cases hg), h.f⟩
theorem Acc.step (h : Acc F X w S w1 X1) (hu : UpdM X1 w1 w2 S1) : ∃ X2, Acc F X w S1 w2 X2 := by
  obtain ⟨X2, e, hd, hc, hf⟩ := hu
  refine ⟨X2, e.trans h.e, hd, h.c.trans hc (fun g hg => ?_), fun g hg => ?_⟩
  · rcases h.f g hg with h1 | h1
    · exact .inl (List.mem_append_right _ h1)
    · exact .inr h1
  · rcases hf g hg with h1 | h1
    · exact h.f g h1
    · exact .inr (Nat.le_trans h.c.size h1)
/-- A change of blocks of F, of which the disk has none. -/
theorem Acc.other (h : Acc F X w S w1 X1) {G : List Nat} (c : Chg G w1 w2) (hG : ∀ g ∈ G, g ∈ F ∧ g < w.heap.size ∧ g ∉ X.foot ∧ NG ≤ g) : Acc F X w S w2 X1 := by
  refine ⟨h.e, h.dm.chg c (fun g hg => ⟨fun hm => ?_, (hG g hg).2.2.2⟩), h.c.trans c (fun g hg => .inl (List.mem_append_left _ (hG g hg).1)), h.f⟩
  obtain ⟨_, h2, h3, _⟩ := hG g hg
  rcases h.f g hm with h4 | h4
  · exact h3 h4
  · omega
theorem Acc.updM (h : Acc [] X w S w1 X1) : UpdM X w w1 S := ⟨X1, h.e, h.dm, by simpa using h.c, h.f⟩

theorem Acc.read (h : Acc F X w S w1 X1) (s : ByteArray) (hs : s.size ≤ maxLen) :
    Calls Tryz.prog 13 #[.pointer (some ⟨X.d, 0, none⟩), .string s] w1 fun e w' => ∃ A c, e = .returned (.tuple #[.slice A (S.read s.data.toList).1.length c, .int .i64 ((S.read s.data.toList).2 : Int)]) ∧
      w'.ownsRow w1.heap.size 5 1 (.slice A (S.read s.data.toList).1.length c) (S.read s.data.toList).1.length (bts (S.read s.data.toList).1) ∧ Below w1.heap.size w1 w' := by
  rw [← h.e]
  exact read_any X1 S s hs h.dm.wf w1 h.dm.dk
theorem Acc.write (h : Acc F X w S w1 X1) (s : ByteArray) (hs : s.size ≤ maxLen) (A : Option Addr) (m c : Nat) (b : List UInt8) (hm : m ≤ 1099511627776) (hl : S.load ≤ 1099511627776) (hr : Row w1.heap.size w1 A m 1 (bts b)) (hA : ∀ a, A = some a → a.block ∉ X1.foot) :
    Calls Tryz.prog 67 #[.pointer (some ⟨X.d, 0, none⟩), .string s, .slice A m c] w1 fun e w' => e = .returned (.int .i64 ((S.write s.data.toList b).2 : Int)) ∧ ∃ X2, Acc F X w (S.write s.data.toList b).1 w' X2 := by
  rw [← h.e]
  exact (write_any X1 S s hs A m c b hm hl w1 h.dm hr hA).mono fun e w' ⟨h1, h2⟩ => ⟨h1, h.step h2⟩
theorem Acc.append (h : Acc F X w S w1 X1) (s : ByteArray) (hs : s.size ≤ maxLen) (A : Option Addr) (m c : Nat) (b : List UInt8) (hm : m ≤ 1099511627776) (hr : Row w1.heap.size w1 A m 1 (bts b)) (hA : ∀ a, A = some a → a.block ∉ X1.foot) :
    Calls Tryz.prog 18 #[.pointer (some ⟨X.d, 0, none⟩), .string s, .slice A m c] w1 fun e w' => e = .returned (.int .i64 ((S.append s.data.toList b).2 : Int)) ∧ ∃ X2, Acc F X w (S.append s.data.toList b).1 w' X2 := by
  rw [← h.e]
  exact (append_any X1 S s hs A m c b hm h.dm.wf w1 h.dm.dk hr (fun a ha e => hA a ha (by rw [e]; exact mem_foot.2 (.inl rfl)))).mono fun e w' ⟨h1, h2⟩ => ⟨h1, h.step (h.dm.upd (h.dm.wf.append _ _) h2)⟩
theorem Acc.create (h : Acc F X w S w1 X1) (s : ByteArray) (hs : s.size ≤ maxLen) (hl : S.load ≤ 1099511627776) :
    Calls Tryz.prog 17 #[.pointer (some ⟨X.d, 0, none⟩), .string s] w1 fun e w' => e = .returned (.int .i64 ((S.create s.data.toList).2 : Int)) ∧ ∃ X2, Acc F X w (S.create s.data.toList).1 w' X2 := by
  rw [← h.e]
  exact (create_any X1 S s hs h.dm.wf hl w1 h.dm.dk).mono fun e w' ⟨h1, h2⟩ => ⟨h1, h.step (h.dm.upd (h.dm.wf.create _) h2)⟩
theorem Acc.sync (h : Acc F X w S w1 X1) (s : ByteArray) (hs : s.size ≤ maxLen) :
    Calls Tryz.prog 45 #[.pointer (some ⟨X.d, 0, none⟩), .string s] w1 fun e w' => e = .returned (.int .i64 ((S.sync s.data.toList).2 : Int)) ∧ ∃ X2, Acc F X w (S.sync s.data.toList).1 w' X2 := by
  rw [← h.e]
  exact (sync_any X1 S s hs h.dm.wf w1 h.dm.dk).mono fun e w' ⟨h1, h2⟩ => ⟨h1, h.step (h.dm.upd (h.dm.wf.sync _) h2)⟩
theorem Acc.remove (h : Acc F X w S w1 X1) (s : ByteArray) (hs : s.size ≤ maxLen) (hl : S.load ≤ 1099511627776) :
    Calls Tryz.prog 16 #[.pointer (some ⟨X.d, 0, none⟩), .string s] w1 fun e w' => e = .returned (.int .i64 ((S.remove s.data.toList).2 : Int)) ∧ ∃ X2, Acc F X w (S.remove s.data.toList).1 w' X2 := by
  rw [← h.e]
  exact (remove_any X1 S s hs h.dm.wf hl w1 h.dm.dk).mono fun e w' ⟨h1, h2⟩ => ⟨h1, h.step (h.dm.upd (h.dm.wf.remove _) h2)⟩
theorem Acc.rename (h : Acc F X w S w1 X1) (s u : ByteArray) (hs : s.size ≤ maxLen) (hu : u.size ≤ maxLen) (hl : S.load ≤ 1099511627776) :
    Calls Tryz.prog 71 #[.pointer (some ⟨X.d, 0, none⟩), .string s, .string u] w1 fun e w' => e = .returned (.int .i64 ((S.rename s.data.toList u.data.toList).2 : Int)) ∧ ∃ X2, Acc F X w (S.rename s.data.toList u.data.toList).1 w' X2 := by
  rw [← h.e]
  exact (rename_any X1 S s u hs hu h.dm.wf hl w1 h.dm.dk).mono fun e w' ⟨h1, h2⟩ => ⟨h1, h.step (h.dm.upd (h.dm.wf.rename _ _) h2)⟩
theorem Acc.syncDir (h : Acc F X w S w1 X1) :
    Calls Tryz.prog 70 #[.pointer (some ⟨X.d, 0, none⟩)] w1 fun e w' => e = .returned (.int .i64 ((S.syncDir).2 : Int)) ∧ ∃ X2, Acc F X w (S.syncDir).1 w' X2 := by
  rw [← h.e]
  exact (syncDir_any X1 S h.dm.wf w1 h.dm.dk).mono fun e w' ⟨h1, h2⟩ => ⟨h1, h.step (h.dm.upd h.dm.wf.syncDir h2)⟩
theorem Acc.list (h : Acc F X w S w1 X1) :
    Calls Tryz.prog 28 #[.pointer (some ⟨X.d, 0, none⟩)] w1 fun e w' => ∃ A c, e = .returned (.slice A S.list.length c) ∧ w'.ownsRow w1.heap.size 9 1 (.slice A S.list.length c) S.list.length (S.list.map Go.Proofs.encStr) ∧ Below w1.heap.size w1 w' := by
  rw [← h.e]
  exact dlist_any X1 S h.dm.wf w1 h.dm.dk
theorem Acc.greatest (h : Acc F X w S w1 X1) (k : ByteArray) (hk : k.size ≤ 1000) :
    Calls Tryz.prog 57 #[.pointer (some ⟨X.d, 0, none⟩), .string k] w1 fun e w' => e = .returned (.int .i64 (Mn.greatest S.list k.data.toList)) ∧ Below w1.heap.size w1 w' := by
  rw [← h.e]
  exact greatest_any X1 S k hk w1 h.dm

/-- The cells of a manifest. -/
def Ms.cells (M : Ms) (xd : Nat) : List Value := [.pointer (some ⟨xd, 0, none⟩), .string (str M.name), .int .i64 (M.v.g : Int), .slice none 0 0, .int .u64 (M.v.f : Int), .int .u64 (M.v.c : Int), .int .u64 (M.v.a : Int), .int .u64 (M.v.l : Int), .int .i64 (M.count : Int), .int .u32 (if M.broken = true then 1 else 0), .int .i32 0, .int .u32 0, .bool M.broken]
abbrev MK (w : World) (m xd : Nat) (M : Ms) : Prop := BoxO w 92 m (M.cells xd)

set_option maxRecDepth 100000 in
set_option maxHeartbeats 1000000 in
theorem break_any (m xd : Nat) (M : Ms) (w : World) (h : MK w m xd M) : Calls Tryz.prog 46 #[.pointer (some ⟨m, 0, none⟩)] w fun e w' => e = .returned (.tuple #[]) ∧ MK w' m xd { M with broken := true } ∧ Chg [m] w w' := by
  have hmf : ∀ (fn : Fn) (first cap : Array Value) (w : World), (Instr.makeFunc fn first cap).run Tryz.prog w = .ok (.func fn first cap) w := fun _ _ _ _ => rfl
  have hlt := h.lt
  have h1 : MK (w.alloc (.cells #[.pointer (some ⟨m, 0, none⟩)] 24)) m xd M := BoxO.alloc h _
  have hp : (w.alloc (.cells #[.pointer (some ⟨m, 0, none⟩)] 24)).cell? ⟨w.heap.size, 0, none⟩ = some (.pointer (some ⟨m, 0, none⟩)) := by simp
  have hc1 : Chg [m] w (w.alloc (.cells #[.pointer (some ⟨m, 0, none⟩)] 24)) := (Chg.refl [m] w).alloc _
  generalize hV : w.alloc (.cells #[.pointer (some ⟨m, 0, none⟩)] 24) = V at *
  have c9 := h1.cell 9
  have c10 := h1.cell 10
  have c12 := h1.cell 12
  simp only [Ms.cells, List.getElem?_cons_zero, List.getElem?_cons_succ] at c9 c10 c12
  cases hb : M.broken with
  | false =>
    rw [hb] at c9 c12
    simp only [Bool.false_eq_true, if_false] at c9
    have hdo := Once.do_first m ⟨w.heap.size, 0, none⟩ (by simp; omega) _ V hp c9 c10 c12 (h1.free 9) (h1.free 10) (h1.free 12)
    have hbx := ((((h1.store 10 (.int .i32 1)).store 12 (.bool true)).drew.store 9 (.int .u32 1)).store 10 (.int .i32 0))
    have hcc : Chg [m] V ((((V.setCell ⟨m, 10, none⟩ (.int .i32 1)).setCell ⟨m, 12, none⟩ (.bool true)).drew.setCell ⟨m, 9, none⟩ (.int .u32 1)).setCell ⟨m, 10, none⟩ (.int .i32 0)) := (((((Chg.refl [m] V).setCell _ (.inl (by simp))).setCell _ (.inl (by simp))).drew).setCell _ (.inl (by simp))).setCell _ (.inl (by simp))
    have hres : MK ((((V.setCell ⟨m, 10, none⟩ (.int .i32 1)).setCell ⟨m, 12, none⟩ (.bool true)).drew.setCell ⟨m, 9, none⟩ (.int .u32 1)).setCell ⟨m, 10, none⟩ (.int .i32 0)) m xd { M with broken := true } := hbx
    have HR := Lib.hid (And.intro hres (hc1.trans hcc (fun g hg => .inl hg)))
    clear hres hcc hbx hb
    go_enter Tryz.func46, Tryz.ntmps46
    go_wp2_with fail
    refine hdo.mono ?_
    rintro e w2 ⟨rfl, rfl⟩
    go_wp2
    exact bodyPost_end (v := .tuple #[]) (by simp [results, go_sem]) rfl ⟨rfl, HR.out⟩
  | true =>
    rw [hb] at c9
    simp only [if_true] at c9
    have hdo := Once.do_done ⟨m, 9, none⟩ 1 (by omega) (.func (.func 79) #[] #[.pointer (some ⟨w.heap.size, 0, none⟩)]) V c9
    have hres : MK V m xd { M with broken := true } := by
      have e : ({ M with broken := true } : Ms) = M := by cases M; simp at hb; simp [hb]
      rw [e]
      exact h1
    have HR := Lib.hid (And.intro hres hc1)
    clear hres hb
    go_enter Tryz.func46, Tryz.ntmps46
    go_wp2_with fail
    refine hdo.mono ?_
    rintro e w2 ⟨rfl, hw2⟩
    obtain rfl := hw2.symm
    go_wp2
    exact bodyPost_end (v := .tuple #[]) (by simp [results, go_sem]) rfl ⟨rfl, HR.out⟩
end Go.Proofs.YthepokgkfaocmaaGreatDoor
