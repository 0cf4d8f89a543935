/- Texts StoA, OwnA, StoI, StoJ, PlainList, PlainAwake, LawT, StoB in one. No conditions. -/
import Derived.Test.YtdkjoigpahafmaaGreatDoorBunAE
import Derived.Test.YtdkjoigpahafmaaGreatDoorBunAJ
import Derived.Test.YtdkjoigpahafmaaGreatDoorBunAM
import Derived.Test.YtdkjoigpahafmaaGreatDoorBunAO
import Derived.Test.YtdkjoigpahafmaaGreatDoorBunAP
import Derived.Test.YtdkjoigpahafmaaGreatDoorBunAQ
import Derived.Test.YtdkjoigpahafmaaGreatDoorBunAF
import Derived.Test.YtdkjoigpahafmaaGreatDoorBunAL
import Derived.Test.YtdkjoigpahafmaaGreatDoorBunAA
import Derived.Sort.KeysCollected

set_option linter.unusedSimpArgs false
set_option linter.unusedVariables false
set_option maxRecDepth 100000
set_option maxHeartbeats 16000000
namespace Go.Proofs.YtdkjoigpahafmaaGreatDoor
section
open Go Go.RowKit Go.Lib Go.Shelf
abbrev Tq := ((Int × Int) × List (List It)) × Nat
structure Yw where
 s : Nat
 m : Nat
 g : Nat
 mm : Nat
 L : Nat
 ns : List Nd
 P : Sl
 T : Sl
 A : Sl
 q : List Tq
def Yw.foot (Y : Yw) : List Nat := Y.s :: Y.m :: Y.g :: Y.mm :: skF Y.L Y.ns
def Yw.cells (Y : Yw) (xd : Nat) (V : Sv) : List Value := [.pointer (some ⟨xd, 0, none⟩), .pointer (some ⟨Y.m, 0, none⟩), .pointer (some ⟨Y.g, 0, none⟩), .pointer (some ⟨Y.mm, 0, none⟩), .slice Y.T.a Y.T.n Y.T.c, .slice Y.A.a Y.A.n Y.A.c, .int .i64 (Y.A.n : Int), .int .u32 (if V.only = true then 1 else 0), .int .i32 0, .int .u32 0, .bool V.only]
def hcells (q : List Tq) : List Value := q.flatMap fun p => [.int .i64 p.1.1.1, .int .i64 p.1.1.2, .pointer (some ⟨p.2, 0, none⟩)]
def TabsAt (w : World) (T : Sl) (q : List Tq) (ts : List ((Int × Int) × List (List It))) : Prop := q.map (·.1) = ts ∧ Row w.heap.size w T.a T.n 3 (hcells q) ∧ T.n ≤ T.c ∧ T.c ≤ maxLen ∧ (T.a = none → T.n = 0 ∧ T.c = 0) ∧ ∀ p ∈ q, TbAt w p.2 p.1.2
theorem hcells_length (q : List Tq) : (hcells q).length = q.length * 3 := by
 induction q with
 | nil => rfl
 | cons p q ih =>
  unfold hcells at ih ⊢
  rw [List.flatMap_cons, List.length_append, ih, List.length_cons]
  simp only [List.length_cons, List.length_nil]
  omega
theorem TabsAt.len {w : World} {T : Sl} {q : List Tq} {ts : List ((Int × Int) × List (List It))} (h : TabsAt w T q ts) : T.n = ts.length := by
 obtain ⟨rfl, h1, _⟩ := h
 have := h1.len
 rw [hcells_length] at this
 rw [List.length_map]
 omega
structure Yw.Apart (X : Dw) (Y : Yw) : Prop where
 x : ∀ g ∈ Y.foot, g ∉ X.foot
 s : Y.s ∉ Y.m :: Y.g :: Y.mm :: skF Y.L Y.ns
 m : Y.m ∉ Y.g :: Y.mm :: skF Y.L Y.ns
 g : Y.g ∉ Y.mm :: skF Y.L Y.ns
abbrev XY (X : Dw) (Y : Yw) : List Nat := X.foot ++ Y.foot
structure SvAt (w : World) (X : Dw) (S : Sd) (Y : Yw) (V : Sv) : Prop where
 dm : Dm w X S
 box : BoxO w 90 Y.s (Y.cells X.d V)
 man : GK w Y.m X.d V.M Y.P
 row : Vrow w X Y.m Y.P V.M.v.files
 pout : ∀ j, j < (fcells V.M.v.files).length → ∀ a, Y.P.a = some a → a.block ∉ Y.foot
 log : LgAt w Y.g X.d V.nm V.sz V.ct
 mem : MmAt w Y.mm Y.L Y.ns
 its : its Y.ns = V.mem
 tabs : Fixed (XY X Y) w fun w => TabsAt w Y.T Y.q V.tabs
 st : Fixed (XY X Y) w fun w => Its 0 w Y.A.a Y.A.n Y.A.c V.st
 apart : Y.Apart X
 ng : ∀ g ∈ Y.foot, NG ≤ g
variable {w w1 w2 : World} {X X1 X2 : Dw} {S S1 S2 : Sd} {Y Y1 Y2 : Yw} {V V1 V2 : Sv}
theorem Yw.mem_foot {g : Nat} : g ∈ Y.foot ↔ g = Y.s ∨ g = Y.m ∨ g = Y.g ∨ g = Y.mm ∨ g ∈ skF Y.L Y.ns := by simp [Yw.foot]
theorem MmAt.lt {w : World} {m L : Nat} {ns : List Nd} (h : MmAt w m L ns) : ∀ g ∈ m :: skF L ns, g < w.heap.size := by
 intro g hg
 rcases List.mem_cons.1 hg with rfl | hg
 ·obtain ⟨_, hb⟩ := h.box
  exact hb.lt
 ·exact h.sk.lt g hg
theorem SvAt.ylt (h : SvAt w X S Y V) : ∀ g ∈ Y.foot, g < w.heap.size := by
 intro g hg
 rcases Yw.mem_foot.1 hg with rfl | rfl | rfl | rfl | h1
 ·exact h.box.lt
 ·exact h.man.lt
 ·exact h.log.lt
 ·exact h.mem.lt _ List.mem_cons_self
 ·exact h.mem.lt _ (List.mem_cons_of_mem _ h1)
theorem SvAt.lt (h : SvAt w X S Y V) : ∀ g ∈ XY X Y, g < w.heap.size := by
 intro g hg
 rcases List.mem_append.1 hg with h1 | h1
 ·exact h.dm.dk.lt g h1
 ·exact h.ylt g h1
theorem SvAt.alen (h : SvAt w X S Y V) : Y.A.n = V.st.length := h.st.now.row.itlen.symm
theorem SvAt.tlen (h : SvAt w X S Y V) : Y.T.n = V.tabs.length := h.tabs.now.len
theorem SvAt.plen (h : SvAt w X S Y V) : Y.P.n = V.M.v.files.length := by
 have := h.row.row.len
 unfold fcells at this
 have e : ∀ l : List (Int × Int), (l.flatMap fun f => [Value.int .i64 f.1, Value.int .i64 f.2]).length = l.length * 2 := fun l => by
  induction l with
  | nil => rfl
  | cons a l ih => rw [List.flatMap_cons, List.length_append, ih, List.length_cons]; simp only [List.length_cons, List.length_nil]; omega
 rw [e] at this
 omega
theorem SvAt.chg {G : List Nat} (h : SvAt w X S Y V) (c : Chg G w w1) (hG : ∀ g ∈ G, g ∉ XY X Y ∧ NG ≤ g) (hP : ∀ a, Y.P.a = some a → a.block ∉ G) (ht : Fixed (XY X Y) w1 fun w => TabsAt w Y.T Y.q V.tabs) (hs : Fixed (XY X Y) w1 fun w => Its 0 w Y.A.a Y.A.n Y.A.c V.st) : SvAt w1 X S Y V := by
 have hn : ∀ g ∈ Y.foot, g ∉ G := fun g h1 h2 => (hG g h2).1 (List.mem_append_right _ h1)
 refine ⟨h.dm.chg c (fun g hg => ⟨fun hm => (hG g hg).1 (List.mem_append_left _ hm), (hG g hg).2⟩), h.box.chg c (hn _ (Yw.mem_foot.2 (.inl rfl))), h.man.chg c (hn _ (Yw.mem_foot.2 (.inr (.inl rfl)))), ?_, h.pout, h.log.chg c (hn _ (Yw.mem_foot.2 (.inr (.inr (.inl rfl))))), h.mem.chg c (fun g hg => hn g (Yw.mem_foot.2 ?_)), h.its, ht, hs, h.apart, h.ng⟩
 ·exact ⟨(row_chg c h.row.row (Nat.le_refl _) (fun j hj a ha => hP a ha)).up c.size, h.row.nc, h.row.cm, h.row.nb, h.row.away⟩
 ·rcases List.mem_cons.1 hg with rfl | hg
  ·exact .inr (.inr (.inr (.inl rfl)))
  ·exact .inr (.inr (.inr (.inr hg)))
theorem SvAt.below (h : SvAt w X S Y V) (hb : Below w.heap.size w w1) : SvAt w1 X S Y V :=
 h.chg (G := []) (Chg.of_below hb []) (fun g hg => by cases hg) (fun a _ hm => by cases hm) (h.tabs.below hb) (h.st.below hb)
def SvUpd (X : Dw) (Y : Yw) (w w1 : World) (S1 : Sd) (V1 : Sv) : Prop := ∃ X1 Y1, X1.d = X.d ∧ Y1.s = Y.s ∧ SvAt w1 X1 S1 Y1 V1 ∧ Chg (XY X Y) w w1 ∧ ∀ g ∈ XY X1 Y1, g ∈ XY X Y ∨ w.heap.size ≤ g
def SvPost (X : Dw) (Y : Yw) (w : World) (R : Sd × Sv × Nat) (e : Ending) (w1 : World) : Prop := e = .returned (.int .i64 (R.2.2 : Int)) ∧ SvUpd X Y w w1 R.1 R.2.1
theorem SvUpd.refl (h : SvAt w X S Y V) : SvUpd X Y w w S V := ⟨X, Y, rfl, rfl, h, Chg.refl _ _, fun _ hg => .inl hg⟩
theorem SvUpd.same (h : SvAt w X S Y V) (hb : Below w.heap.size w w1) : SvUpd X Y w w1 S V := ⟨X, Y, rfl, rfl, h.below hb, Chg.of_below hb _, fun _ hg => .inl hg⟩
theorem SvUpd.trans (e1 : X1.d = X.d) (e2 : Y1.s = Y.s) (c : Chg (XY X Y) w w1) (hf : ∀ g ∈ XY X1 Y1, g ∈ XY X Y ∨ w.heap.size ≤ g) (k : SvUpd X1 Y1 w1 w2 S2 V2) : SvUpd X Y w w2 S2 V2 := by
 obtain ⟨X2, Y2, e3, e4, h, c2, hf2⟩ := k
 refine ⟨X2, Y2, e3.trans e1, e4.trans e2, h, c.trans c2 hf, fun g hg => ?_⟩
 rcases hf2 g hg with h1 | h1
 ·exact hf g h1
 ·exact .inr (Nat.le_trans c.size h1)
theorem SvAt.disk (h : SvAt w X S Y V) (hu : UpdM X w w1 S1) : ∃ X1, X1.d = X.d ∧ SvAt w1 X1 S1 Y V ∧ Chg (XY X Y) w w1 ∧ (∀ g ∈ XY X1 Y, g ∈ XY X Y ∨ w.heap.size ≤ g) := by
 obtain ⟨X1, e, hd, c, hf⟩ := hu
 have hn : ∀ g ∈ Y.foot, g ∉ X.foot := h.apart.x
 have hc2 : Chg (XY X Y) w w1 := c.mono fun g hg => .inl (List.mem_append_left _ hg)
 have hf2 : ∀ g ∈ XY X1 Y, g ∈ XY X Y ∨ w.heap.size ≤ g := fun g hg => by
  rcases List.mem_append.1 hg with h1 | h1
  ·rcases hf g h1 with h2 | h2
   ·exact .inl (List.mem_append_left _ h2)
   ·exact .inr h2
  ·exact .inl (List.mem_append_right _ h1)
 refine ⟨X1, e, ⟨hd, by rw [e]; exact h.box.chg c (hn _ (Yw.mem_foot.2 (.inl rfl))), by rw [e]; exact h.man.chg c (hn _ (Yw.mem_foot.2 (.inr (.inl rfl)))), h.row.step c hf, h.pout, by rw [e]; exact h.log.chg c (hn _ (Yw.mem_foot.2 (.inr (.inr (.inl rfl))))), h.mem.chg c (fun g hg => hn g (Yw.mem_foot.2 ?_)), h.its, h.tabs.step hc2 hf2, h.st.step hc2 hf2, ⟨fun g hg hm => ?_, h.apart.s, h.apart.m, h.apart.g⟩, h.ng⟩, hc2, hf2⟩
 ·rcases List.mem_cons.1 hg with rfl | hg
  ·exact .inr (.inr (.inr (.inl rfl)))
  ·exact .inr (.inr (.inr (.inr hg)))
 ·rcases hf g hm with h1 | h1
  ·exact hn g hg h1
  ·have := h.ylt g hg
   omega
theorem SvAt.mAway (h : SvAt w X S Y V) : Y.m ∉ X.foot := h.apart.x _ (Yw.mem_foot.2 (.inr (.inl rfl)))
theorem SvAt.gst (h : SvAt w X S Y V) : Gst Y.P Y.m X w S V.M w X := Gst.start h.dm h.man h.row h.mAway (h.ng _ (Yw.mem_foot.2 (.inr (.inl rfl))))
theorem SvAt.gleft (h : SvAt w X S Y V) {M1 : Gs} {P1 : Sl} (k : Gst P1 Y.m X w S1 M1 w1 X1) (hP : P1 = Y.P ∨ ∀ a, P1.a = some a → w.heap.size ≤ a.block) : SvAt w1 X1 S1 { Y with P := P1 } { V with M := M1 } ∧ Chg (XY X Y) w w1 ∧ ∀ g ∈ XY X1 { Y with P := P1 }, g ∈ XY X Y ∨ w.heap.size ≤ g := by
 have hn : ∀ g ∈ Y.foot, g ∉ X.foot := h.apart.x
 have e := k.acc.e
 have hf := k.acc.f
 have c : Chg ([Y.m] ++ X.foot) w w1 := k.acc.c
 have hc2 : Chg (XY X Y) w w1 := c.mono fun g hg => .inl (by
  rcases List.mem_append.1 hg with h1 | h1
  ·rw [List.mem_singleton.1 h1]
   exact List.mem_append_right _ (Yw.mem_foot.2 (.inr (.inl rfl)))
  ·exact List.mem_append_left _ h1)
 have hf2 : ∀ g ∈ XY X1 Y, g ∈ XY X Y ∨ w.heap.size ≤ g := fun g hg => by
  rcases List.mem_append.1 hg with h1 | h1
  ·rcases hf g h1 with h2 | h2
   ·exact .inl (List.mem_append_left _ h2)
   ·exact .inr h2
  ·exact .inl (List.mem_append_right _ h1)
 have hm : ∀ g ∈ Y.foot, g ≠ Y.m → g ∉ [Y.m] ++ X.foot := fun g hg hne hmm => by
  rcases List.mem_append.1 hmm with h1 | h1
  ·exact hne (List.mem_singleton.1 h1)
  ·exact hn g hg h1
 have aps := h.apart.s
 have am := h.apart.m
 refine ⟨⟨k.acc.dm, by rw [e]; exact h.box.chg c (hm _ (Yw.mem_foot.2 (.inl rfl)) (fun e => aps (by rw [e]; exact List.mem_cons_self))), by rw [e]; exact k.man, k.row, fun j hj a ha => ?_, by rw [e]; exact h.log.chg c (hm _ (Yw.mem_foot.2 (.inr (.inr (.inl rfl)))) (fun e => am (by rw [← e]; exact List.mem_cons_self))), h.mem.chg c (fun g hg => hm g (Yw.mem_foot.2 ?_) (fun e => am (by rw [← e]; exact List.mem_cons_of_mem _ hg))), h.its, h.tabs.step hc2 hf2, h.st.step hc2 hf2, ⟨fun g hg hmm => ?_, aps, am, h.apart.g⟩, h.ng⟩, hc2, hf2⟩
 ·rcases hP with rfl | hP
  ·refine h.pout j ?_ a ha
   have l1 := k.row.row.len
   have l2 := h.row.row.len
   rw [l2, ← l1]
   exact hj
  ·intro hmm
   have := h.ylt _ hmm
   have := hP a ha
   omega
 ·rcases List.mem_cons.1 hg with rfl | hg
  ·exact .inr (.inr (.inr (.inl rfl)))
  ·exact .inr (.inr (.inr (.inr hg)))
 ·rcases hf g hmm with h1 | h1
  ·exact hn g hg h1
  ·have := h.ylt g hg
   omega
theorem SvAt.sbox (h : SvAt w X S Y V) (c : Chg [Y.s] w w1) (hx : BoxO w1 90 Y.s (Y1.cells X.d V1)) (e1 : Y1 = { Y with A := Y1.A }) (e2 : V1 = { V with only := V1.only, st := V1.st }) (hs : Fixed (XY X Y) w1 fun w => Its 0 w Y1.A.a Y1.A.n Y1.A.c V1.st) : SvAt w1 X S Y1 V1 ∧ Chg (XY X Y) w w1 := by
 have hc2 : Chg (XY X Y) w w1 := c.mono fun g hg => .inl (by
  rw [List.mem_singleton.1 hg]
  exact List.mem_append_right _ (Yw.mem_foot.2 (.inl rfl)))
 have hm : ∀ g ∈ Y.m :: Y.g :: Y.mm :: skF Y.L Y.ns, g ∉ [Y.s] := fun g hg hmm => h.apart.s (by rw [← List.mem_singleton.1 hmm]; exact hg)
 obtain ⟨A1, ho, hs1, hv⟩ : ∃ A1 : Sl, ∃ b : Bool, ∃ l : List It, A1 = Y1.A ∧ b = V1.only ∧ l = V1.st := ⟨_, _, _, rfl, rfl, rfl⟩
 obtain ⟨q1, q2, q3⟩ := hv
 rw [← q1] at e1
 rw [← q2, ← q3] at e2
 subst e1 e2
 refine ⟨⟨h.dm.chg c (fun g hg => by rw [List.mem_singleton.1 hg]; exact ⟨h.apart.x _ (Yw.mem_foot.2 (.inl rfl)), h.ng _ (Yw.mem_foot.2 (.inl rfl))⟩), hx, h.man.chg c (hm _ List.mem_cons_self), ?_, h.pout, h.log.chg c (hm _ (List.mem_cons_of_mem _ List.mem_cons_self)), h.mem.chg c (fun g hg => hm _ (List.mem_cons_of_mem _ (List.mem_cons_of_mem _ hg))), h.its, h.tabs.step hc2 (fun g hg => .inl hg), hs, ⟨h.apart.x, h.apart.s, h.apart.m, h.apart.g⟩, h.ng⟩, hc2⟩
 exact ⟨(row_chg c h.row.row (Nat.le_refl _) (fun j hj a ha hmm => h.pout j hj a ha (by rw [List.mem_singleton.1 hmm]; exact Yw.mem_foot.2 (.inl rfl)))).up c.size, h.row.nc, h.row.cm, h.row.nb, h.row.away⟩
theorem SvAt.scr (h0 : SvAt w X S Y V) (h : SvAt w1 X1 S1 Y V) (c : Chg (XY X Y) w w1) (hf : ∀ g ∈ XY X1 Y, g ∈ XY X Y ∨ w.heap.size ≤ g) {G : List Nat} (hG : ∀ g ∈ G, w.heap.size ≤ g ∧ g ∉ XY X1 Y) (c2 : Chg G w1 w2) : SvAt w2 X1 S1 Y V := by
 have c3 : Chg (XY X Y) w w2 := c.trans c2 fun g hg => .inr (hG g hg).1
 have hb := h0.dm.env.base
 have hn : ∀ g ∈ Y.foot, g ∉ G := fun g h1 h2 => (hG g h2).2 (List.mem_append_right _ h1)
 refine ⟨h.dm.chg c2 (fun g hg => ⟨fun hm => (hG g hg).2 (List.mem_append_left _ hm), by have := (hG g hg).1; omega⟩), h.box.chg c2 (hn _ (Yw.mem_foot.2 (.inl rfl))), h.man.chg c2 (hn _ (Yw.mem_foot.2 (.inr (.inl rfl)))), ?_, h.pout, h.log.chg c2 (hn _ (Yw.mem_foot.2 (.inr (.inr (.inl rfl))))), h.mem.chg c2 (fun g hg => hn g (Yw.mem_foot.2 ?_)), h.its, h0.tabs.step c3 hf, h0.st.step c3 hf, h.apart, h.ng⟩
 ·refine ⟨(row_chg c2 h.row.row (Nat.le_refl _) (fun j hj a ha hm => ?_)).up c2.size, h.row.nc, h.row.cm, h.row.nb, h.row.away⟩
  obtain ⟨b, e, q1, _⟩ := h0.row.row.cell j hj
  rw [ha] at e
  injection e with e
  subst e
  have := (hG _ hm).1
  omega
 ·rcases List.mem_cons.1 hg with rfl | hg
  ·exact .inr (.inr (.inr (.inl rfl)))
  ·exact .inr (.inr (.inr (.inr hg)))
end
section
open Go Go.RowKit Go.Lib
theorem sidx_cap (K : Nat) (hF : ∀ args w, (callFunc K args).run Tryz.prog w = .ok (.enter K args) w) (cap : Array Value) (P : List UInt8 → Bool) (A : Option Addr) (n c : Nat) (l : List (List UInt8)) (w : World) (hn : n ≤ 1000000) (hr : Row w.heap.size w A n 1 (l.map Go.Proofs.encStr))
  (hK : ∀ x w1, x ∈ l → Below w.heap.size w w1 → Calls Tryz.prog K (#[.string (str x)] ++ cap) w1 fun e w' => e = .returned (.bool (P x)) ∧ Below w1.heap.size w1 w') :
  Calls Tryz.prog 182 #[.slice A n c, .func (.func K) #[] cap] w fun e w' => e = .returned (.int .i64 (fidx P l)) ∧ Below w.heap.size w w' := by
 have hnn : n = l.length := by
  have := hr.len
  simp at this
  omega
 have HK := Lib.hid hK
 have HF := Lib.hid hF
 have HNN := Lib.hid hnn
 clear hK hF hnn
 go_enter Tryz.func182, Tryz.ntmps182
 go_wp2
 go_loopw [8] (fun i wr => ∃ k : Nat, k ≤ n ∧ i = .int .i64 (k : Int) ∧ Hid ((l.take k).any P = false) ∧ Below w.heap.size w wr) (fun i _ => n - (intOf i).toNat)
 case atStart => exact ⟨0, Nat.zero_le _, rfl, Lib.hid rfl, Below.refl _ _⟩
 case round =>
  obtain ⟨k, hk, rfl, hb, hbl⟩ := hrel
  by_cases hlt : k < n
  ·obtain ⟨a, hl, rfl, hbk, c0⟩ := (hr.below hbl).enc hlt
   have ht := any_take (P := P) hl
   have hs := fun h1 => fidx_some (P := P) hl hb.out h1
   have hc := HK.out l[k] wr (List.getElem_mem hl) hbl
   generalize l[k] = f at *
   have HT := Lib.hid ht
   have HS := Lib.hid hs
   clear ht hs hl
   generalize hp : P f = p at hc
   have HP := Lib.hid hp
   clear hp
   go_wp2_with fail
   rw [HF.out, Oper.upon_enter]
   refine hc.mono ?_
   rintro e w1 ⟨rfl, hb1⟩
   cases p with
   | true =>
    go_wp2
    go_ret
    exact ⟨ret_i (HS.out HP.out).symm, later_ hbl hb1⟩
   | false =>
    go_wp2
    go_roundw
    case rel => exact ⟨k + 1, by omega, by go_num, Lib.hid (by rw [HT.out, hb.out, HP.out]; rfl), later_ hbl hb1⟩
    case measure => simp [intOf]; omega
  ·have hall : fidx P l = -1 := fidx_none (by
    have hb' := hb.out
    rwa [List.take_of_length_le (by have := HNN.out; omega)] at hb')
   have HA := Lib.hid hall
   clear hall
   go_wp2
   go_ret
   exact ⟨ret_i HA.out.symm, hbl⟩
theorem shas_cap (K : Nat) (hF : ∀ args w, (callFunc K args).run Tryz.prog w = .ok (.enter K args) w) (cap : Array Value) (P : List UInt8 → Bool) (A : Option Addr) (n c : Nat) (l : List (List UInt8)) (w : World) (hn : n ≤ 1000000) (hr : Row w.heap.size w A n 1 (l.map Go.Proofs.encStr))
  (hK : ∀ x w1, x ∈ l → Below w.heap.size w w1 → Calls Tryz.prog K (#[.string (str x)] ++ cap) w1 fun e w' => e = .returned (.bool (P x)) ∧ Below w1.heap.size w1 w') :
  Calls Tryz.prog 122 #[.slice A n c, .func (.func K) #[] cap] w fun e w' => e = .returned (.bool (l.any P)) ∧ Below w.heap.size w w' := by
 have hge := fidx_ge P l
 have hq := sidx_cap K hF cap P A n c l w hn hr hK
 clear hK
 generalize fidx P l = i at *
 have HGE := Lib.hid hge
 clear hge
 go_enter Tryz.func122, Tryz.ntmps122
 go_wp2_with fail
 refine hq.mono ?_
 rintro e w1 ⟨rfl, hb⟩
 clear hq
 go_wp2
 go_ret
 exact ⟨ret_b HGE.out, hb⟩
theorem str_lit (x l : List UInt8) : ((str x).toList == l) = (x == l) := by
 rw [ByteArray.toList_eq]
 rfl
theorem own1_any (x k : List UInt8) (hx : x.length ≤ 1000) (hk : k.length ≤ 1000) (g : Nat) (w : World) (h : Env w) (hc : w.cell? ⟨g, 0, none⟩ = some (.string (str x))) :
  Calls Tryz.prog 186 #[.string (str k), .pointer (some ⟨g, 0, none⟩)] w fun e w' => e = .returned (.bool (Mn.number x k).isSome) ∧ Below w.heap.size w w' := by
 have hn := number_any (str x) (str k) (by rw [str_size]; omega) (by rw [str_size]; omega) w h
 rw [list_str, list_str] at hn
 obtain ⟨o, ho⟩ : ∃ o, o = Mn.number x k := ⟨_, rfl⟩
 rw [← ho] at hn ⊢
 have HN := Lib.hid hn
 clear hn ho h
 unfold numV at HN
 cases o <;>
 ·simp only at HN
  go_enter Tryz.func186, Tryz.ntmps186
  go_wp2_with fail
  refine HN.out.mono ?_
  rintro e w1 ⟨rfl, hb⟩
  go_wp2
  go_ret
  exact ⟨rfl, hb⟩
theorem isown_any (x : List UInt8) (hx : x.length ≤ 1000) (w : World) (h : Env w) :
  Calls Tryz.prog 126 #[.string (str x)] w fun e w' => e = .returned (.bool (St.isOwn x)) ∧ Below w.heap.size w w' := by
 have e1 : ((str x).toList == [99, 117, 114, 114, 101, 110, 116]) = (x == Mw.kCur) := str_lit x Mw.kCur
 have e2 : ((str x).toList == [99, 117, 114, 114, 101, 110, 116, 46, 116, 109, 112]) = (x == Mw.kTemp) := str_lit x Mw.kTemp
 have hR : St.isOwn x = ((x == Mw.kCur || x == Mw.kTemp) || [Mn.kLog, Mn.kTab, Mn.kMan].any fun k => (Mn.number x k).isSome) := rfl
 generalize St.isOwn x = R at *
 have hV := (Below.refl w.heap.size w).alloc (Nat.le_refl _) (.cells #[.string (str x)] 9)
 have hcall : ∀ V e, Below w.heap.size w V → V.cell? ⟨w.heap.size, 0, none⟩ = some (.string (str x)) → BoxO V e (w.heap.size + 1) [.string (str Mn.kLog), .string (str Mn.kTab), .string (str Mn.kMan)] →
   Calls Tryz.prog 122 #[.slice (some ⟨w.heap.size + 1, 0, none⟩) 3 3, .func (.func 186) #[] #[.pointer (some ⟨w.heap.size, 0, none⟩)]] V fun e w' => e = .returned (.bool ([Mn.kLog, Mn.kTab, Mn.kMan].any fun k => (Mn.number x k).isSome)) ∧ Below V.heap.size V w' := by
  intro V e hb hc hbx
  have hr : Row V.heap.size V (some ⟨w.heap.size + 1, 0, none⟩) 3 1 ([Mn.kLog, Mn.kTab, Mn.kMan].map Go.Proofs.encStr) := ⟨rfl, fun j hj => ⟨_, rfl, hbx.lt, by
   have h1 := hbx.cell j
   have e0 : (⟨w.heap.size + 1, 0, none⟩ : Addr).add j = ⟨w.heap.size + 1, j, none⟩ := by
    simp [Addr.add]
    omega
   rw [e0, h1]
   exact List.getElem?_eq_getElem hj⟩⟩
  refine shas_cap 186 (fun _ _ => rfl) _ _ _ 3 3 _ V (by omega) hr ?_
  intro k w1 hk hb1
  have hkl : k.length ≤ 1000 := by
   simp only [List.mem_cons, List.mem_nil_iff, or_false] at hk
   rcases hk with rfl | rfl | rfl <;> decide
  have hlt : w.heap.size < V.heap.size := by have := hbx.lt; omega
  exact own1_any x k hx hkl w.heap.size w1 ((h.below hb).below hb1) ((hb1.cell (p := ⟨w.heap.size, 0, none⟩) hlt).trans hc)
 have HC := Lib.hid hcall
 clear hcall h
 cases hb1 : (x == Mw.kCur) with
 | true =>
  rw [hb1] at e1 hR
  have HR := Lib.hid hR
  clear hR e2 HC
  go_enter Tryz.func126, Tryz.ntmps126
  go_wp2
  go_ret
  exact ⟨by rw [HR.out]; rfl, hV⟩
 | false =>
  cases hb2 : (x == Mw.kTemp) with
  | true =>
   rw [hb1] at e1 hR
   rw [hb2] at e2 hR
   have HR := Lib.hid hR
   clear hR HC
   go_enter Tryz.func126, Tryz.ntmps126
   go_wp2
   go_ret
   exact ⟨by rw [HR.out]; rfl, hV⟩
  | false =>
   rw [hb1] at e1 hR
   rw [hb2] at e2 hR
   generalize ([Mn.kLog, Mn.kTab, Mn.kMan].any fun k => (Mn.number x k).isSome) = q at *
   have HR := Lib.hid hR
   clear hR
   go_enter Tryz.func126, Tryz.ntmps126
   go_wp2_with fail
   have hVV := hV.alloc hV.size (.cells #[.string (str Mn.kLog), .string (str Mn.kTab), .string (str Mn.kMan)] 9)
   refine (HC.out _ 9 hVV (by simp) (by
    have := BoxO.new (w.alloc (.cells #[.string (str x)] 9)) #[.string (str Mn.kLog), .string (str Mn.kTab), .string (str Mn.kMan)] 9
    simpa using this)).mono ?_
   rintro e w1 ⟨rfl, hb1⟩
   have hbz := later_ hVV hb1
   clear hVV
   go_wp2
   go_ret
   exact ⟨by rw [HR.out]; rfl, hbz⟩
theorem new1_any (X : Dw) (S : Sd) (x : List UInt8) (hx : x.length ≤ 1000) (g : Nat) (w : World) (h : Dm w X S) (hc : w.cell? ⟨g, 0, none⟩ = some (.pointer (some ⟨X.d, 0, none⟩))) :
  Calls Tryz.prog 124 #[.string (str x), .pointer (some ⟨g, 0, none⟩)] w fun e w' => e = .returned (.bool (St.isOwn x && !St.isNone S x)) ∧ Below w.heap.size w w' := by
 have e1 : ((str x).toList == [99, 117, 114, 114, 101, 110, 116, 46, 116, 109, 112]) = (x == Mw.kTemp) := str_lit x Mw.kTemp
 have e2 : ((str x).toList == [109, 97, 110, 46, 49]) = (x == St.kMan1) := str_lit x St.kMan1
 have e3 : ((str x).toList == [108, 111, 103, 46, 49]) = (x == St.kLog1) := str_lit x St.kLog1
 have hrd := (Acc.start (F := []) h).read (str x) (by rw [str_size]; unfold maxLen; omega)
 rw [list_str] at hrd
 have hio := fun W hb => isown_any x hx W (h.env.below (w' := W) hb)
 have hR : (St.isOwn x && !St.isNone S x) = (St.isOwn x && !((x == Mw.kTemp || x == St.kMan1) || (x == St.kLog1 && (S.read x).1.length == 0))) := rfl
 obtain ⟨R, hRe⟩ : ∃ R, R = (St.isOwn x && !St.isNone S x) := ⟨_, rfl⟩
 rw [← hRe] at hR ⊢
 generalize St.isOwn x = o at *
 obtain ⟨n, hn⟩ : ∃ n, n = (S.read x).1.length := ⟨_, rfl⟩
 rw [← hn] at hrd hR
 have e4 : ((n : Int) == 0) = (n == 0) := by
  rw [Bool.eq_iff_iff]
  simp
 generalize (S.read x).2 = er at *
 have HRD : Hid (Calls Tryz.prog 125 #[.pointer (some ⟨X.d, 0, none⟩), .string (str x)] w fun e w' => ∃ A c, e = .returned (.tuple #[.slice A n c, .int .i64 (er : Int)]) ∧ Below w.heap.size w w') := Lib.hid (hrd.mono fun _ _ ⟨A, c, h1, _, h2⟩ => ⟨A, c, h1, h2⟩)
 have HIO := Lib.hid hio
 clear hrd hio h hn hRe
 generalize (x == Mw.kTemp) = b1 at *
 generalize (x == St.kMan1) = b2 at *
 generalize (x == St.kLog1) = b3 at *
 generalize (n == 0) = b4 at *
 have HR := Lib.hid hR
 clear hR
 cases o <;> cases b1 <;> cases b2 <;> cases b3 <;> cases b4
 all_goals
 ·go_enter Tryz.func124, Tryz.ntmps124
  go_wp2_with fail
  refine HRD.out.mono ?_
  rintro e w1 ⟨A, c, rfl, hb1⟩
  go_wp2_with fail
  refine (HIO.out _ hb1).mono ?_
  rintro e w2 ⟨rfl, hb2⟩
  have hbz := later_ hb1 hb2
  clear hb1 hb2
  go_wp2
  go_ret
  exact ⟨by rw [HR.out]; rfl, hbz⟩
theorem isnew_any (X : Dw) (S : Sd) (w : World) (h : Dm w X S) :
  Calls Tryz.prog 61 #[.pointer (some ⟨X.d, 0, none⟩)] w fun e w' => e = .returned (.bool (St.isNew S)) ∧ Below w.heap.size w w' := by
 have hV := (Below.refl w.heap.size w).alloc (Nat.le_refl _) (.cells #[.pointer (some ⟨X.d, 0, none⟩)] 29)
 have hp : (w.alloc (.cells #[.pointer (some ⟨X.d, 0, none⟩)] 29)).cell? ⟨w.heap.size, 0, none⟩ = some (.pointer (some ⟨X.d, 0, none⟩)) := by simp
 have hlt : w.heap.size < (w.alloc (.cells #[.pointer (some ⟨X.d, 0, none⟩)] 29)).heap.size := by simp
 obtain ⟨W, hW⟩ : ∃ W, W = w.alloc (.cells #[.pointer (some ⟨X.d, 0, none⟩)] 29) := ⟨_, rfl⟩
 rw [← hW] at hV hp hlt
 have h1 := h.below hV
 have hls := (Acc.start (F := []) h1).list
 have hR : St.isNew S = !(S.list.any fun s => St.isOwn s && !St.isNone S s) := rfl
 generalize St.isNew S = R at *
 have hnl := list_len h.wf
 have hnm := list_named h.wf
 have HLS := Lib.hid hls
 have HR := Lib.hid hR
 have HV := Lib.hid hW
 have H1 := Lib.hid h1
 have HP := Lib.hid hp
 clear hls hR h h1 hW
 generalize hq : (S.list.any fun s => St.isOwn s && !St.isNone S s) = q at *
 have HQ := Lib.hid hq
 clear hq
 go_enter Tryz.func61, Tryz.ntmps61
 go_wp2_with fail
 rw [← HV.out]
 refine HLS.out.mono ?_
 rintro e w1 ⟨A, c, rfl, ho, hb1⟩
 have hcf := shas_cap 124 (fun _ _ => rfl) #[.pointer (some ⟨w.heap.size, 0, none⟩)] (fun s => St.isOwn s && !St.isNone S s) A S.list.length c S.list w1 (by omega) (Row.own ho) (fun x w2 hx hb2 => new1_any X S x (by have := named_len (hnm x hx); omega) w.heap.size w2 (H1.out.below (later_ hb1 hb2)) (((later_ hb1 hb2).cell (p := ⟨w.heap.size, 0, none⟩) hlt).trans HP.out))
 rw [HQ.out] at hcf
 have HCF := Lib.hid hcf
 clear hcf ho
 go_wp2_with fail
 refine HCF.out.mono ?_
 rintro e w2 ⟨rfl, hb2⟩
 have hbz := later_ hV (later_ hb1 hb2)
 clear hb1 hb2
 go_wp2
 go_ret
 exact ⟨by rw [HR.out]; rfl, hbz⟩
end
section
open Go Go.RowKit Go.Lib Go.Shelf
variable {w w1 w2 : World} {X X1 X2 : Dw} {S S1 S2 : Sd} {Y Y1 Y2 : Yw} {V V1 V2 : Sv}
theorem Gw.rewrite_v (d : Sd) (M : Gs) (nm : List UInt8) : (Gw.rewrite d M nm).2.1.v = M.v := by
 unfold Gw.rewrite Gw.tmp Gw.hd Gw.sd1 Gw.ren Gw.fin
 repeat' split
 all_goals rfl
theorem wipe_none (S : Sd) : ∀ (l : List (List UInt8)), (∀ s ∈ l, St.isOwn s = false) → St.wipe l S = (S, 0)
 | [], _ => rfl
 | s :: r, h => by
  unfold St.wipe
  rw [h s List.mem_cons_self]
  exact wipe_none S r (fun x hx => h x (List.mem_cons_of_mem _ hx))
def SvBorn (X : Dw) (w : World) (S' : Sd) (V' : Sv) (e : Ending) (w' : World) : Prop := ∃ X' Y, e = .returned (.tuple #[.pointer (some ⟨Y.s, 0, none⟩), .int .i64 0]) ∧ X'.d = X.d ∧ SvAt w' X' S' Y V' ∧ Chg X.foot w w' ∧ (∀ g ∈ XY X' Y, g ∈ X.foot ∨ w.heap.size ≤ g)
theorem screate_any (h : Dm w X S) (hno : ∀ s ∈ S.list, St.isOwn s = false) (hld : S.load ≤ 100000000000) (S' : Sd) (V' : Sv) (hR : St.create S = (S', some V', 0)) :
  Calls Tryz.prog 62 #[.pointer (some ⟨X.d, 0, none⟩)] w (SvBorn X w S' V') := by
 have hlist := (Acc.start (F := []) h).list
 have hnl := list_len h.wf
 have hnm := list_named h.wf
 have hio : ∀ k (hk : k < S.list.length) W, Below w.heap.size w W → Calls Tryz.prog 126 #[.string (str S.list[k])] W fun e w' => e = .returned (.bool false) ∧ Below W.heap.size W w' := fun k hk W hb => by
  have := isown_any S.list[k] (by have := named_len (hnm _ (List.getElem_mem hk)); omega) W (h.env.below hb)
  rw [hno _ (List.getElem_mem hk)] at this
  exact this
 unfold St.create at hR
 rw [wipe_none S _ hno] at hR
 simp only [ne_eq, not_true_eq_false, if_false] at hR
 have hl1 := Sd.create_load S St.kLog1
 have hnew : ∀ W, Below w.heap.size w W → Calls Tryz.prog 127 #[.pointer (some ⟨X.d, 0, none⟩), .string { data := #[108, 111, 103, 46, 49] }] W (LnPost X W St.kLog1 (S.create St.kLog1)) := fun W hb => lnew_any X S St.kLog1 W (by decide) (by omega) (h.below hb)
 obtain ⟨a, ha⟩ : ∃ a, a = S.create St.kLog1 := ⟨_, rfl⟩
 rw [← ha] at hR hnew hl1
 obtain ⟨S1, er1⟩ := a
 simp only at hR hl1
 have h1 : er1 = 0 := by
  apply Classical.byContradiction
  intro h1
  rw [if_pos h1] at hR
  simp at hR
 subst h1
 simp only [not_true_eq_false, if_false] at hR
 have hnew2 : ∀ W, Below w.heap.size w W → Calls Tryz.prog 127 #[.pointer (some ⟨X.d, 0, none⟩), .string { data := #[108, 111, 103, 46, 49] }] W fun e w' => ∃ g X', e = .returned (.tuple #[.pointer (some ⟨g, 0, none⟩), .int .i64 0]) ∧ X'.d = X.d ∧ Dm w' X' S1 ∧ Chg X.foot W w' ∧ (∀ g ∈ X'.foot, g ∈ X.foot ∨ W.heap.size ≤ g) ∧ LgAt w' g X.d St.kLog1 0 0 ∧ W.heap.size ≤ g ∧ g ∉ X'.foot := fun W hb => (hnew W hb).mono fun e w' ⟨X', q1, q2, q3, q4, q5⟩ => by
  rcases q5 with ⟨q, _⟩ | ⟨_, g, q6, q7, q8, q9⟩
  ·exact absurd rfl q
  ·exact ⟨g, X', q6, q1, q2, q3, q4, q7, q8, q9⟩
 have hl2 := Sd.sync_load S1 St.kLog1
 obtain ⟨b, hb⟩ : ∃ b, b = S1.sync St.kLog1 := ⟨_, rfl⟩
 rw [← hb] at hR hl2
 obtain ⟨S2, er2⟩ := b
 simp only at hR hl2
 have h2 : er2 = 0 := by
  apply Classical.byContradiction
  intro h2
  rw [if_pos h2] at hR
  simp at hR
 subst h2
 simp only [not_true_eq_false, if_false] at hR
 obtain ⟨r, hr⟩ : ∃ r, r = Gw.rewrite S2 St.first (Mn.name Mn.kMan 1) := ⟨_, rfl⟩
 have hrv : r.2.1.v = St.first.v := by rw [hr]; exact Gw.rewrite_v _ _ _
 rw [← hr] at hR
 have h3 : r.2.2 = 0 := by
  apply Classical.byContradiction
  intro h3
  rw [if_pos h3] at hR
  simp at hR
 rw [if_neg (by simp [h3])] at hR
 simp only [Prod.mk.injEq, Option.some.injEq, and_true] at hR
 obtain ⟨hS', hV'⟩ := hR
 have hbase := h.env.base
 generalize S.list = Ls at hlist hnl hnm hno hio
 have HH := Lib.hid h
 have HL := Lib.hid hlist
 have HIO := Lib.hid hio
 have HNEW := Lib.hid hnew2
 have HSY := Lib.hid hb
 have HRW := Lib.hid (And.intro hr (And.intro h3 hrv))
 have HV := Lib.hid (And.intro hS' hV')
 have HLD := Lib.hid (show S2.load ≤ 1000000000000 by omega)
 clear h hlist hio hnew hnew2 ha hl1 hb hl2 hr hrv h3 hS' hV' hld hno hnm
 go_enter Tryz.func62, Tryz.ntmps62
 go_wp2_with fail
 with_reducible refine HL.out.mono ?_
 rintro e w1 ⟨A, c, rfl, ho, hb1⟩
 have hrow := Row.own ho
 obtain ⟨n, hn⟩ : ∃ n, n = Ls.length := ⟨_, rfl⟩
 have hn64 : n ≤ 64 := by omega
 rw [← hn] at hrow
 rw [← hn]
 have HROW := Lib.hid hrow
 have HN := Lib.hid hn
 clear ho hrow hn HL
 go_wp2
 go_loopw [14] (fun i wr => ∃ k : Nat, k ≤ n ∧ i = .int .i64 (k : Int) ∧ Below w.heap.size w wr ∧ Below w1.heap.size w1 wr) (fun i _ => n - (intOf i).toNat)
 case atStart => exact ⟨0, Nat.zero_le _, rfl, hb1, Below.refl _ _⟩
 case round =>
  obtain ⟨k, hk, rfl, hbw, hbl⟩ := hrel
  by_cases hlt : k < n
  ·obtain ⟨p, hl, rfl, hbk, c0⟩ := (HROW.out.below hbl).enc hlt
   have hio := HIO.out k hl wr hbw
   generalize Ls[k] = s at *
   have HI := Lib.hid hio
   clear hio hl
   go_wp2_with fail
   with_reducible refine HI.out.mono ?_
   rintro e w2 ⟨rfl, hb2⟩
   have hbz := later_ hbw hb2
   have hbz1 := later_ hbl hb2
   clear hb2 HI
   go_wp2
   go_roundw
   case rel => exact ⟨k + 1, by omega, by go_num, hbz, hbz1⟩
   case measure => simp [intOf]; omega
  ·go_wp2_with fail
   with_reducible refine (HNEW.out wr hbw).mono ?_
   rintro e w2 ⟨g, X1, rfl, e1, hd1, hc1, hf1, hlg, hgl, hgo⟩
   have hgw : w.heap.size ≤ g := Nat.le_trans hbw.size hgl
   have hsy := lsync_any X1 S1 g St.kLog1 0 0 w2 (by decide) hd1 (by rw [e1]; exact hlg) hgo
   rw [← HSY.out] at hsy
   have HS := Lib.hid hsy
   have HD := Lib.hid hd1
   have HC1 := Lib.hid (And.intro ((Chg.of_below hbw X.foot).trans hc1 (fun g hg => .inl hg)) (fun g hg => (hf1 g hg).imp id (Nat.le_trans hbw.size) : ∀ g ∈ X1.foot, g ∈ X.foot ∨ w.heap.size ≤ g))
   have HLG := Lib.hid (And.intro hlg (And.intro hgw hgo))
   have HE1 := Lib.hid e1
   clear hsy hd1 hc1 hf1 hlg hgl hgo hgw e1 hbw hbl HNEW HIO HROW hb1
   go_wp2_with fail
   with_reducible refine HS.out.mono ?_
   rintro e w3 ⟨rfl, X2, e2, hd2, hc2, hf2⟩
   have hlg3 := HLG.out.1.chg hc2 HLG.out.2.2
   have hg2 : g ∉ X2.foot := fun hm => by
    rcases hf2 g hm with q | q
    ·exact HLG.out.2.2 q
    ·have := HLG.out.1.lt
     omega
   have hc3 := HC1.out.1.trans hc2 HC1.out.2
   have hf3 : ∀ g ∈ X2.foot, g ∈ X.foot ∨ w.heap.size ≤ g := fun g hg => by
    rcases hf2 g hg with q | q
    ·exact HC1.out.2 g q
    ·exact .inr (Nat.le_trans HC1.out.1.size q)
   have hmn := gnew_any (w := w3) (X := X2) (S := S2) ⟨1, [], 0, 0, 0, 0⟩ none 0 0 (by decide) (by omega) (by omega) (Nat.zero_le _) Row.nil_ HLD.out hd2 _ HRW.out.1 HRW.out.2.1
   rw [e2, HE1.out] at hmn
   unfold Vw.val at hmn
   simp only [Int.natCast_zero] at hmn
   have HMN := Lib.hid hmn
   have HLG3 := Lib.hid (And.intro hlg3 hg2)
   have HC3 := Lib.hid (And.intro hc3 hf3)
   have HE2 := Lib.hid (e2.trans HE1.out)
   clear hmn hlg3 hg2 hc3 hf3 e2 hd2 hc2 hf2 HS HD HC1
   go_wp2_with fail
   with_reducible refine HMN.out.mono ?_
   rintro e w4 ⟨P, m, X3, rfl, hbn⟩
   have hnw := mmnew_any w4
   have HNW := Lib.hid hnw
   have HBN := Lib.hid hbn
   clear hnw hbn HMN
   go_wp2_with fail
   with_reducible refine HNW.out.mono ?_
   rintro e w5 ⟨mm, L, ns, rfl, hmm, hits, hb5, hlow⟩
   have hfin : SvBorn X w S' V' (.returned (.tuple #[.pointer (some ⟨w5.heap.size, 0, none⟩), .int .i64 0])) (w5.alloc (.cells #[.pointer (some ⟨X.d, 0, none⟩), .pointer (some ⟨m, 0, none⟩), .pointer (some ⟨g, 0, none⟩), .pointer (some ⟨mm, 0, none⟩), .slice none 0 0, .slice none 0 0, .int .i64 0, .int .u32 0, .int .i32 0, .int .u32 0, .bool false] 90)) := by
    obtain ⟨hS', hV'⟩ := HV.out
    subst hS' hV'
    have bn := HBN.out
    have hbA := (Below.refl w5.heap.size w5).alloc (Nat.le_refl _) (.cells #[.pointer (some ⟨X.d, 0, none⟩), .pointer (some ⟨m, 0, none⟩), .pointer (some ⟨g, 0, none⟩), .pointer (some ⟨mm, 0, none⟩), .slice none 0 0, .slice none 0 0, .int .i64 0, .int .u32 0, .int .i32 0, .int .u32 0, .bool false] 90)
    have hbx := BoxO.new w5 #[.pointer (some ⟨X.d, 0, none⟩), .pointer (some ⟨m, 0, none⟩), .pointer (some ⟨g, 0, none⟩), .pointer (some ⟨mm, 0, none⟩), .slice none 0 0, .slice none 0 0, .int .i64 0, .int .u32 0, .int .i32 0, .int .u32 0, .bool false] 90
    have hb45 := later_ hb5 hbA
    have z3 : w3.heap.size ≤ w4.heap.size := bn.c.size
    have z4 := hb5.size
    have zg := HLG3.out.1.lt
    have zm := bn.new
    have zm4 := bn.man.lt
    have zl : ∀ g ∈ mm :: skF L ns, w4.heap.size ≤ g ∧ g < w5.heap.size := fun g hg => ⟨hlow g hg, hmm.lt g hg⟩
    have zx : ∀ g ∈ X3.foot, g < w4.heap.size := bn.dm.dk.lt
    have zw : w.heap.size ≤ w3.heap.size := HC3.out.1.size
    have hg3 : g ∉ X3.foot := fun hm => by
     rcases bn.f g hm with q | q
     ·exact HLG3.out.2 q
     ·omega
    have e3 : X3.d = X.d := bn.e.trans HE2.out
    refine ⟨X3, ⟨w5.heap.size, m, g, mm, L, ns, P, ⟨none, 0, 0⟩, ⟨none, 0, 0⟩, []⟩, rfl, e3, ⟨bn.dm.below hb45, by rw [e3]; exact hbx, by rw [bn.e]; exact bn.man.below hb45, bn.row.below hb45, fun j hj a ha => ?_, by rw [e3]; exact (HLG3.out.1.chg bn.c HLG3.out.2).below hb45, hmm.below hbA, hits, fun _ _ => ⟨rfl, Row.nil_, Nat.le_refl _, Nat.zero_le _, fun _ => ⟨rfl, rfl⟩, fun p hp => by cases hp⟩, fun _ _ => Its.nil 0 _, ⟨?_, ?_, ?_, fun hm => ?_⟩, ?_⟩, ?_, ?_⟩
    ·exfalso
     have q := HRW.out.2.2
     change j < (fcells r.2.1.v.files).length at hj
     rw [q] at hj
     exact Nat.not_lt_zero _ hj
    ·intro x hx hm
     have := zx x hm
     rcases Yw.mem_foot.1 hx with q | q | q | q | q
     ·have : x = w5.heap.size := q
      omega
     ·exact bn.away (by rw [← show x = m from q]; exact hm)
     ·exact hg3 (by rw [← show x = g from q]; exact hm)
     ·have := zl x (by rw [show x = mm from q]; exact List.mem_cons_self)
      omega
     ·have := zl x (List.mem_cons_of_mem _ q)
      omega
    ·intro hm
     rcases List.mem_cons.1 hm with q | q
     ·have : w5.heap.size = m := q
      omega
     ·rcases List.mem_cons.1 q with q | q
      ·have : w5.heap.size = g := q
       omega
      ·have := zl _ q
       simp only at this
       omega
    ·intro hm
     rcases List.mem_cons.1 hm with q | q
     ·have : m = g := q
      omega
     ·have := zl _ q
      simp only at this
      omega
    ·have := zl _ hm
     simp only at this
     omega
    ·intro x hx
     rcases Yw.mem_foot.1 hx with q | q | q | q | q
     ·have : x = w5.heap.size := q
      omega
     ·have : x = m := q
      omega
     ·have : x = g := q
      have := HLG.out.2.1
      omega
     ·have := zl x (by rw [show x = mm from q]; exact List.mem_cons_self)
      omega
     ·have := zl x (List.mem_cons_of_mem _ q)
      omega
    ·exact (HC3.out.1.trans bn.c HC3.out.2).trans (Chg.of_below hb45 []) (fun g hg => by cases hg)
    ·intro x hx
     rcases List.mem_append.1 hx with q | q
     ·rcases bn.f x q with q | q
      ·exact HC3.out.2 x q
      ·exact .inr (by omega)
     ·right
      rcases Yw.mem_foot.1 q with q | q | q | q | q
      ·have : x = w5.heap.size := q
       omega
      ·have : x = m := q
       omega
      ·have : x = g := q
       have := HLG.out.2.1
       omega
      ·have := zl x (by rw [show x = mm from q]; exact List.mem_cons_self)
       omega
      ·have := zl x (List.mem_cons_of_mem _ q)
       omega
   have HF := Lib.hid hfin
   clear hfin hmm hits hb5 hlow HNW HBN
   go_wp2
   refine bodyPost_ret (v := .tuple #[.pointer (some ⟨w5.heap.size, 0, none⟩), .int .i64 0]) (by simp [results, go_sem]) rfl HF.out
end
section
open Go Go.RowKit Go.Lib Go.Shelf
variable {w w1 w2 : World} {X X1 X2 : Dw} {S S1 S2 : Sd} {Y Y1 Y2 : Yw} {V V1 V2 : Sv}
theorem isNew_none (hno : ∀ s ∈ S.list, St.isOwn s = false) : St.isNew S = true := by
 unfold St.isNew
 have : (S.list.any fun s => St.isOwn s && !St.isNone S s) = false := by
  rw [List.any_eq_false]
  intro s hs
  rw [hno s hs]
  simp
 rw [this]
 rfl
theorem sopen_new (h : Dm w X S) (hd : S.dead = false) (hno : ∀ s ∈ S.list, St.isOwn s = false) (hld : S.load ≤ 100000000000) (S' : Sd) (V' : Sv) (hR : St.create S = (S', some V', 0)) :
  Calls Tryz.prog 27 #[.pointer (some ⟨X.d, 0, none⟩)] w (SvBorn X w S' V') := by
 have hin := isnew_any X S w h
 rw [isNew_none hno] at hin
 have hcr : ∀ W, Below w.heap.size w W → Calls Tryz.prog 62 #[.pointer (some ⟨X.d, 0, none⟩)] W (SvBorn X w S' V') := fun W hb => (screate_any (h.below hb) hno hld S' V' hR).mono fun e w' ⟨X', Y, q1, q2, q3, q4, q5⟩ => ⟨X', Y, q1, q2, q3, (Chg.of_below hb X.foot).trans q4 (fun g hg => .inl hg), fun g hg => (q5 g hg).imp id (Nat.le_trans hb.size)⟩
 have c6 := h.dk.box.cell 6
 simp only [Dw.cells, gE0, gE1] at c6
 rw [hd] at c6
 have HIN := Lib.hid hin
 have HCR := Lib.hid hcr
 clear h hd hin hcr hno hR hld
 go_enter Tryz.func27, Tryz.ntmps27
 go_wp2_with (first | (go_at_call 60; go_in) | fail)
 with_reducible refine HIN.out.mono ?_
 rintro e w1 ⟨rfl, hb1⟩
 go_wp2_with fail
 with_reducible refine (HCR.out w1 hb1).mono ?_
 rintro e w2 ⟨X', Y, rfl, h2⟩
 have HZ : Hid (SvBorn X w S' V' (.returned (.tuple #[.pointer (some ⟨Y.s, 0, none⟩), .int .i64 0])) w2) := Lib.hid ⟨X', Y, rfl, h2⟩
 clear h2 hb1 HIN HCR
 go_wp2
 go_ret2
 exact HZ.out
end
section
open Go
namespace Ls
def ins (x : List UInt8) : List (List UInt8) → List (List UInt8)
 | [] => [x]
 | y :: r => if decide (x ≤ y) = true then x :: y :: r else y :: ins x r
def sort (l : List (List UInt8)) : List (List UInt8) := l.foldr ins []
theorem ins_perm (x : List UInt8) : ∀ l, (ins x l).Perm (x :: l)
 | [] => List.Perm.refl _
 | y :: r => by
  unfold ins
  split
  ·exact List.Perm.refl _
  ·exact ((ins_perm x r).cons y).trans (List.Perm.swap x y r)
theorem sort_perm : ∀ l, (sort l).Perm l
 | [] => List.Perm.refl _
 | x :: r => by
  show (ins x (sort r)).Perm (x :: r)
  exact (ins_perm x _).trans ((sort_perm r).cons x)
theorem mem_ins {x z : List UInt8} {l : List (List UInt8)} : z ∈ ins x l ↔ z = x ∨ z ∈ l := by rw [(ins_perm x l).mem_iff, List.mem_cons]
theorem ins_pw (x : List UInt8) : ∀ (l : List (List UInt8)), l.Pairwise (fun a b => decide (a ≤ b) = true) → (ins x l).Pairwise (fun a b => decide (a ≤ b) = true)
 | [], _ => List.pairwise_singleton _ _
 | y :: r, h => by
  obtain ⟨h1, h2⟩ := List.pairwise_cons.1 h
  unfold ins
  split
  ·rename_i hxy
   refine List.pairwise_cons.2 ⟨fun z hz => ?_, h⟩
   rcases List.mem_cons.1 hz with rfl | hz
   ·exact hxy
   ·have q1 := of_decide_eq_true hxy
    have q2 := of_decide_eq_true (h1 z hz)
    exact decide_eq_true (List.le_trans q1 q2)
  ·rename_i hxy
   refine List.pairwise_cons.2 ⟨fun z hz => ?_, ins_pw x r h2⟩
   rcases mem_ins.1 hz with rfl | hz
   ·rcases List.le_total z y with q | q
    ·exact absurd (decide_eq_true q) hxy
    ·exact decide_eq_true q
   ·exact h1 z hz
theorem sort_pw : ∀ l, (sort l).Pairwise (fun a b => decide (a ≤ b) = true)
 | [] => List.Pairwise.nil
 | x :: r => ins_pw x _ (sort_pw r)
def list (d : Sd) : List (List UInt8) := if d.dead = true then [] else sort (d.names.map (·.1))
theorem list_eq : Sd.list = list := by
 funext d
 unfold Sd.list list
 split
 ·rfl
 ·have h1 := mergeSort_of_perm (sort_perm (d.names.map (·.1))).symm
  have h2 := List.mergeSort_of_pairwise (sort_pw (d.names.map (·.1)))
  exact h1.trans h2
section
variable (L : Sd → List (List UInt8))
def fin (d : Sd) (M : Gs) (nm : List UInt8) : Sd × Gs × Nat :=
 if (d.syncDir).2 ≠ 0 then ((d.syncDir).1, { M with name := nm, count := 1, broken := true }, (d.syncDir).2)
 else (Mw.sweep nm (L (d.syncDir).1) (d.syncDir).1, { M with name := nm, count := 1 }, 0)
def ren (d : Sd) (M : Gs) (nm : List UInt8) : Sd × Gs × Nat :=
 if (d.rename Mw.kTemp Mw.kCur).2 ≠ 0 then ((d.rename Mw.kTemp Mw.kCur).1, M, (d.rename Mw.kTemp Mw.kCur).2) else fin L (d.rename Mw.kTemp Mw.kCur).1 M nm
def sd1 (d : Sd) (M : Gs) (nm : List UInt8) : Sd × Gs × Nat :=
 if (d.syncDir).2 ≠ 0 then ((d.syncDir).1, M, (d.syncDir).2) else ren L (d.syncDir).1 M nm
def hd (d : Sd) (M : Gs) (nm : List UInt8) : Sd × Gs × Nat :=
 if (d.write Mw.kTemp (Mw.headB ((Mn.number nm Mn.kMan).getD 0))).2 ≠ 0 then ((d.write Mw.kTemp (Mw.headB ((Mn.number nm Mn.kMan).getD 0))).1, M, (d.write Mw.kTemp (Mw.headB ((Mn.number nm Mn.kMan).getD 0))).2)
 else sd1 L (d.write Mw.kTemp (Mw.headB ((Mn.number nm Mn.kMan).getD 0))).1 M nm
def tmp (d : Sd) (M : Gs) (nm : List UInt8) : Sd × Gs × Nat :=
 if (d.read Mw.kTemp).2 = 0 then
  if (d.remove Mw.kTemp).2 ≠ 0 then ((d.remove Mw.kTemp).1, M, (d.remove Mw.kTemp).2) else hd L (d.remove Mw.kTemp).1 M nm
 else hd L d M nm
def rewrite (d : Sd) (M : Gs) (nm : List UInt8) : Sd × Gs × Nat :=
 if (d.write nm M.v.whole.rec_).2 ≠ 0 then ((d.write nm M.v.whole.rec_).1, M, (d.write nm M.v.whole.rec_).2)
 else tmp L (d.write nm M.v.whole.rec_).1 M nm
def create (S : Sd) : Sd × Option Sv × Nat :=
 let a := St.wipe (L S) S
 if a.2 ≠ 0 then (a.1, none, a.2) else
 let b := a.1.create St.kLog1
 if b.2 ≠ 0 then (b.1, none, b.2) else
 let c := b.1.sync St.kLog1
 if c.2 ≠ 0 then (c.1, none, c.2) else
 let r := rewrite L c.1 St.first (Mn.name Mn.kMan 1)
 if r.2.2 ≠ 0 then (r.1, none, r.2.2) else (r.1, some ⟨r.2.1, St.kLog1, 0, 0, [], [], [], false⟩, 0)
def number (S : Sd) : Int := max (Mn.greatest (L S) Mn.kLog) (Mn.greatest (L S) Mn.kTab) + 1
def write (S : Sd) (l : List It) : Sd × Nat :=
 if 1073741824 < number L S then (S, 65) else
 let s := Mn.name Mn.kTab (number L S)
 let a := S.create s
 if a.2 ≠ 0 then a else
 let b := a.1.append s (Tb.make l)
 if b.2 ≠ 0 then b else b.1.sync s
def fresh (S : Sd) : Sd × Nat :=
 if 1073741824 < number L S then (S, 65) else
 let s := Mn.name Mn.kLog (number L S)
 let a := S.create s
 if a.2 ≠ 0 then a else a.1.sync s
def flush2 (S : Sd) (V : Sv) (add : List (Int × Int)) (tabs : List ((Int × Int) × List (List It))) : Sd × Sv × Nat :=
 let b := fresh L S
 if b.2 ≠ 0 then (b.1, V, b.2) else
 let r := St.turn b.1 V ⟨[], add, number L S, 0, 0, 0, 0⟩ (St.turned (number L S) tabs)
 if r.2.2 = 0 then ((r.1.remove (Mn.name Mn.kLog V.M.v.log)).1, r.2.1, 0) else r
def flush (S : Sd) (V : Sv) : Sd × Sv × Nat :=
 if V.only = true then (S, V, 14) else
 if V.ct = 0 then (S, V, 0) else
 if 30 ≤ V.tabs.length then (S, V, 65) else
 if St.live V = [] then flush2 L S V [] V.tabs else
 let a := write L S (St.live V)
 if a.2 ≠ 0 then (a.1, V, a.2) else flush2 L a.1 V [(0, number L S)] (V.tabs ++ [((0, number L S), Tb.rows (St.live V))])
end
theorem create_eq (S : Sd) : St.create S = create list S := by rw [← list_eq]; rfl
theorem flush_eq (S : Sd) (V : Sv) : St.flush S V = flush list S V := by rw [← list_eq]; rfl
end Ls
end
section
open Go
namespace Aw
def y : It := ⟨3, 2, 7, 9, 5⟩
def dflt : Sv := ⟨St.first, [], 0, 0, [], [], [], false⟩
def c0 : Sd × Option Sv × Nat := Ls.create Ls.list (Sd.new 1048576)
def S0 : Sd := c0.1
def V0 : Sv := c0.2.1.getD dflt
def r1 : Sd × Sv × Nat := St.apply S0 V0 [y]
def r2 : Sd × Sv × Nat := Ls.flush Ls.list r1.1 r1.2.1
theorem opt_getD {α : Type} {o : Option α} {d : α} (h : o.isSome = true) : o = some (o.getD d) := by cases o <;> simp at h ⊢
theorem c0_some : c0.2.1.isSome = true := by decide +kernel
theorem c0_zero : c0.2.2 = 0 := by decide +kernel
theorem born : St.create (Sd.new 1048576) = (S0, some V0, 0) := by
 rw [Ls.create_eq]
 have h3 := opt_getD (d := dflt) c0_some
 have h2 := c0_zero
 show c0 = _
 unfold S0 V0
 generalize c0 = c at *
 obtain ⟨a, b, n⟩ := c
 simp only at h2 h3 ⊢
 rw [h2, ← h3]
theorem f0 : V0.st = [] ∧ V0.mem = [] ∧ V0.sz = 0 ∧ V0.ct = 0 ∧ V0.nm.length ≤ 1000 := by decide +kernel
theorem f1 : (St.apply S0 V0 [y]).2.2 = 0 := by decide +kernel
theorem f2 : r1.2.1.mem = [y] ∧ r1.2.1.st = [y] ∧ Tb.good (St.live r1.2.1) = true ∧ r1.2.1.M.v.files.length ≤ 40 ∧ (1 ≤ r1.2.1.M.v.log ∧ r1.2.1.M.v.log ≤ 1073741824) ∧ r1.2.1.M.count ≤ 1000000000 ∧ r1.2.1.M.name.length ≤ 1000 ∧ r1.1.load ≤ 100000000000 := by decide +kernel
theorem flushed : St.flush r1.1 r1.2.1 = r2 := Ls.flush_eq _ _
theorem f3 : r2.2.2 = 0 := by decide +kernel
theorem f4 : r2.2.1.tabs.length = 1 ∧ r2.2.1.st = [y] := by decide +kernel
end Aw
end
section
open Go Go.RowKit Go.Lib Go.Shelf
variable {w w1 w2 : World} {X X1 X2 : Dw} {S S1 S2 : Sd} {Y Y1 Y2 : Yw} {V V1 V2 : Sv}
structure WAt (w0 w : World) (gw : Nat) (X : Dw) (S : Sd) (Y : Yw) (V : Sv) : Prop where
 at_ : SvAt w X S Y V
 box : BoxO w 34 gw [.pointer (some ⟨X.d, 0, none⟩), .pointer (some ⟨Y.s, 0, none⟩), .slice none 0 0, .int .u64 0, .int .u64 0, .int .u64 0, .int .u64 0]
 low : ∀ g ∈ XY X Y, w0.heap.size ≤ g
 out : gw ∉ XY X Y
 gl : w0.heap.size ≤ gw
 bel : Below w0.heap.size w0 w
theorem WAt.below {w0 : World} {gw : Nat} (h : WAt w0 w gw X S Y V) (hb : Below w.heap.size w w1) : WAt w0 w1 gw X S Y V := ⟨h.at_.below hb, h.box.below hb, h.low, h.out, h.gl, later_ h.bel hb⟩
theorem WAt.upd {w0 : World} {gw : Nat} (h : WAt w0 w gw X S Y V) (hu : SvUpd X Y w w1 S1 V1) : ∃ X1 Y1, WAt w0 w1 gw X1 S1 Y1 V1 ∧ ∀ g ∈ XY X1 Y1, g ∈ XY X Y ∨ w.heap.size ≤ g := by
 obtain ⟨X1, Y1, e, es, h1, c, f⟩ := hu
 have hl := h.box.lt
 refine ⟨X1, Y1, ⟨h1, by rw [e, es]; exact h.box.chg c h.out, fun g hg => ?_, fun hm => ?_, h.gl, h.bel.trans (c.below h.bel.size h.low)⟩, f⟩
 ·rcases f g hg with q | q
  ·exact h.low g q
  ·exact Nat.le_trans h.bel.size q
 ·rcases f gw hm with q | q
  ·exact h.out q
  ·omega
theorem new_list (q : Int) : (Sd.new q).list = [] := by simp [Sd.list, Sd.new]
theorem dm_fresh {q : Int} (hq : q ≤ 1099511627776) (he : Env w) (hd : DK w1 X (Sd.new q)) (hb : Below w.heap.size w w1) (hf : ∀ g ∈ X.foot, w.heap.size ≤ g) : Dm w1 X (Sd.new q) :=
 ⟨hd, Sd.new_wf q hq, he.below hb, fun g hg => Nat.le_trans he.base (hf g hg)⟩
theorem wnew_any (q : Int) (hq : q ≤ 1099511627776) (he : Env w) (S' : Sd) (V' : Sv) (hR : St.create (Sd.new q) = (S', some V', 0)) :
  Calls Tryz.prog 8 #[.int .i64 q] w fun e w' => ∃ gw X Y, e = .returned (.pointer (some ⟨gw, 0, none⟩)) ∧ WAt w w' gw X S' Y V' := by
 have hdn := dnew_any q w
 have HDN := Lib.hid hdn
 have HE := Lib.hid he
 have HR := Lib.hid hR
 clear hdn he
 go_enter Tryz.func8, Tryz.ntmps8
 go_wp2_with fail
 with_reducible refine HDN.out.mono ?_
 rintro e w1 ⟨X, rfl, hdk, hb1, hfo⟩
 have hdm := dm_fresh hq HE.out hdk hb1 hfo
 have hop := sopen_new hdm rfl (by rw [new_list]; intro s hs; cases hs) (by show 0 ≤ _; omega) S' V' HR.out
 have HOP := Lib.hid hop
 have HB := Lib.hid (And.intro hb1 hfo)
 clear hop hdk hb1 hfo hdm HDN
 go_wp2_with fail
 with_reducible refine HOP.out.mono ?_
 rintro e w2 ⟨X2, Y, rfl, e2, hs, hc, hf⟩
 have hlow : ∀ g ∈ XY X2 Y, w.heap.size ≤ g := fun g hg => by
  rcases hf g hg with z | z
  ·exact HB.out.2 g z
  ·exact Nat.le_trans HB.out.1.size z
 have hb2 : Below w.heap.size w w2 := HB.out.1.trans (hc.below HB.out.1.size HB.out.2)
 have hbA := (Below.refl w2.heap.size w2).alloc (Nat.le_refl _) (.cells #[.pointer (some ⟨X.d, 0, none⟩), .pointer (some ⟨Y.s, 0, none⟩), .slice none 0 0, .int .u64 0, .int .u64 0, .int .u64 0, .int .u64 0] 34)
 have hbx := BoxO.new w2 #[.pointer (some ⟨X.d, 0, none⟩), .pointer (some ⟨Y.s, 0, none⟩), .slice none 0 0, .int .u64 0, .int .u64 0, .int .u64 0, .int .u64 0] 34
 have hz : WAt w (w2.alloc (.cells #[.pointer (some ⟨X.d, 0, none⟩), .pointer (some ⟨Y.s, 0, none⟩), .slice none 0 0, .int .u64 0, .int .u64 0, .int .u64 0, .int .u64 0] 34)) w2.heap.size X2 S' Y V' :=
  ⟨hs.below hbA, by rw [e2]; exact hbx, hlow, fun hm => by have := hs.lt _ hm; omega, hb2.size, later_ hb2 hbA⟩
 have HZ := Lib.hid hz
 clear hz hbA hbx hs hc hf hlow hb2 e2 HOP
 go_wp2
 go_ret
 exact ⟨_, _, _, rfl, HZ.out⟩
end
section
open Go Go.RowKit Go.Lib Go.Shelf
variable {w w1 w2 : World} {X X1 X2 : Dw} {S S1 S2 : Sd} {Y Y1 Y2 : Yw} {V V1 V2 : Sv}
theorem sset_any (h : SvAt w X S Y V) (A : Option Addr) (n c : Nat) (l : List It) (hA : Fixed (XY X Y) w fun w => Its 0 w A n c l) :
  Calls Tryz.prog 32 #[.pointer (some ⟨Y.s, 0, none⟩), .slice A n c] w fun e w' => e = .returned (.tuple #[]) ∧ SvAt w' X S { Y with A := ⟨A, n, c⟩ } { V with st := l } ∧ Chg (XY X Y) w w' := by
 have c5 := h.box.cell 5
 have f5 := h.box.free 5
 have hb1 := h.box.store 5 (.slice A n c)
 have c6 := hb1.cell 6
 have f6 := hb1.free 6
 have hb2 := hb1.store 6 (.int .i64 (n : Int))
 simp only [Yw.cells, gE0, gE1, List.set] at c5 c6
 have HST := Lib.hid (aistore_any Y.s 6 _ (n : Int) _ c6 f6)
 have hcc : Chg [Y.s] w ((w.setCell ⟨Y.s, 5, none⟩ (.slice A n c)).setCell ⟨Y.s, 6, none⟩ (.int .i64 (n : Int))) := ((Chg.refl _ _).setCell _ (.inl (by simp))).setCell _ (.inl (by simp))
 have hcc2 : Chg (XY X Y) w ((w.setCell ⟨Y.s, 5, none⟩ (.slice A n c)).setCell ⟨Y.s, 6, none⟩ (.int .i64 (n : Int))) := hcc.mono fun g hg => .inl (by
  rw [List.mem_singleton.1 hg]
  exact List.mem_append_right _ (Yw.mem_foot.2 (.inl rfl)))
 have hfin := h.sbox (Y1 := { Y with A := ⟨A, n, c⟩ }) (V1 := { V with st := l }) hcc hb2 rfl rfl (hA.step hcc2 (fun g hg => .inl hg))
 have HF := Lib.hid hfin
 clear hfin hcc hcc2 hb2 hb1 c6 f6 hA h
 go_enter Tryz.func32, Tryz.ntmps32
 go_wp2_with fail
 refine HST.out.mono ?_
 rintro e w1 ⟨rfl, rfl⟩
 go_wp2
 exact bodyPost_end (v := .tuple #[]) (by simp [results, go_sem]) rfl ⟨rfl, HF.out.1, HF.out.2⟩
theorem sown_any (A : Option Addr) (n c : Nat) (l : List It) (w : World) (hn : n ≤ 1000000) (hr : Row w.heap.size w A n 5 (itc l)) :
  Calls Tryz.prog 33 #[.slice A n c] w fun e w' => ∃ A' c', e = .returned (.slice A' n c') ∧ w'.ownsRow w.heap.size 27 5 (.slice A' n c') n (itc l) ∧ Below w.heap.size w w' := by
 obtain ⟨i0, hi0, hz0, hz1, hz2⟩ := info_parts info_item
 have HR := Lib.hid hr
 clear hr
 go_enter Tryz.func33, Tryz.ntmps33
 go_wp2_with (at_builtin; refine stop_in ?_)
 refine stop_out (wpList_app0 rfl _ (.tmp 3) _ rfl w.heap.size 27 i0 _ 5 40 Tryz.underlying24 hi0 hz0 hz1 hz2 rfl (by omega) w (Below.refl _ _) (Nat.le_refl _) rfl w.heap.size A n c (itc l) rfl HR.out (itc_one l) (by unfold maxLen; omega) (by omega) ?_)
 intro A' c' w' h1 h2 h3 h4 h5
 go_wp2
 go_ret
 exact ⟨_, _, rfl, h1, h2⟩
theorem sstate_any (h : SvAt w X S Y V) (hn : V.st.length ≤ 1000000) :
  Calls Tryz.prog 10 #[.pointer (some ⟨Y.s, 0, none⟩)] w fun e w' => ∃ A' c', e = .returned (.slice A' Y.A.n c') ∧ w'.ownsRow w.heap.size 27 5 (.slice A' Y.A.n c') Y.A.n (itc V.st) ∧ Below w.heap.size w w' := by
 have c5 := h.box.cell 5
 simp only [Yw.cells, gE0, gE1] at c5
 have HS := Lib.hid (sown_any Y.A.a Y.A.n Y.A.c V.st w (by rw [h.alen]; omega) h.st.now.row)
 clear h
 go_enter Tryz.func10, Tryz.ntmps10
 go_wp2_with fail
 refine HS.out.mono ?_
 rintro e w1 ⟨A', c', rfl, h1, h2⟩
 go_wp2
 go_ret
 exact ⟨_, _, rfl, h1, h2⟩
theorem sgetS_any (h : SvAt w X S Y V) (hn : V.st.length ≤ 1000000) (s : Int) (t : Nat) :
  Calls Tryz.prog 38 #[.pointer (some ⟨Y.s, 0, none⟩), .int .i64 s, .int .u64 (t : Int)] w fun e w' => e = .returned (.tuple #[((V.st.find? (isAt s t)).getD It.none_).val, .bool (V.st.find? (isAt s t)).isSome]) ∧ Below w.heap.size w w' := by
 have hbV := (Below.refl w.heap.size w).alloc (Nat.le_refl _) (.cells #[.int .i64 0, .int .i64 0, .int .u64 0, .int .u64 0, .int .i64 0] 27)
 have hbx := BoxO.new w #[.int .i64 0, .int .i64 0, .int .u64 0, .int .u64 0, .int .i64 0] 27
 have h1 := h.below hbV
 generalize hW : w.alloc (.cells #[.int .i64 0, .int .i64 0, .int .u64 0, .int .u64 0, .int .i64 0] 27) = W at *
 have c5 := h1.box.cell 5
 simp only [Yw.cells, gE0, gE1] at c5
 have hq := sget_any Y.A.a Y.A.n Y.A.c V.st s t _ (by rw [h1.alen]; omega) h1.st.now.row
 obtain ⟨o, ho⟩ : ∃ o, o = V.st.find? (isAt s t) := ⟨_, rfl⟩
 rw [← ho] at hq ⊢
 obtain ⟨r, hr⟩ : ∃ r, r = o.getD It.none_ := ⟨_, rfl⟩
 rw [← hr] at hq ⊢
 have HQ := Lib.hid hq
 clear hq h h1 ho hr
 unfold It.val at *
 go_enter Tryz.func38, Tryz.ntmps38
 go_wp2_with fail
 refine HQ.out.mono ?_
 rintro e w1 ⟨rfl, hb1⟩
 have hx1 := hbx.below hb1
 have hbz := later_ hbV hb1
 have z0 := hx1.free 0
 have z1 := hx1.free 1
 have z2 := hx1.free 2
 have z3 := hx1.free 3
 have z4 := hx1.free 4
 have s0 := hx1.cell 0
 have s1 := hx1.cell 1
 have s2 := hx1.cell 2
 have s3 := hx1.cell 3
 have s4 := hx1.cell 4
 simp only [gE0, gE1] at s0 s1 s2 s3 s4
 clear HQ hx1 hbx hbV hb1
 go_wp2
 refine bodyPost_ret (v := .tuple #[.agg #[.int .i64 r.s, .int .i64 r.k, .int .u64 (r.t : Int), .int .u64 (r.v : Int), .int .i64 r.x], .bool o.isSome]) (by simp [results, go_sem, *]) rfl ⟨rfl, ?_⟩
 exact ((((hbz.setCell (p := ⟨w.heap.size, 0, none⟩) (Nat.le_refl _) _).setCell (p := ⟨w.heap.size, 1, none⟩) (Nat.le_refl _) _).setCell (p := ⟨w.heap.size, 2, none⟩) (Nat.le_refl _) _).setCell (p := ⟨w.heap.size, 3, none⟩) (Nat.le_refl _) _).setCell (p := ⟨w.heap.size, 4, none⟩) (Nat.le_refl _) _
theorem five_of {α : Type} {l : List α} (h : l.length = 5) : ∃ a b c d e, l = [a, b, c, d, e] := by
 rcases l with _ | ⟨a, _ | ⟨b, _ | ⟨c, _ | ⟨d, _ | ⟨e, _ | ⟨f, l⟩⟩⟩⟩⟩⟩ <;> simp at h
 exact ⟨a, b, c, d, e, rfl⟩
theorem cg5 (g : Nat) (w : World) (a b c d e : Value) : Chg [g] w (((((w.setCell ⟨g, 0, none⟩ a).setCell ⟨g, 1, none⟩ b).setCell ⟨g, 2, none⟩ c).setCell ⟨g, 3, none⟩ d).setCell ⟨g, 4, none⟩ e) :=
 (((((Chg.refl [g] w).setCell _ (.inl (by simp))).setCell _ (.inl (by simp))).setCell _ (.inl (by simp))).setCell _ (.inl (by simp))).setCell _ (.inl (by simp))
theorem sstats_any (h : SvAt w X S Y V) (hn : V.tabs.length ≤ 1000000) :
  Calls Tryz.prog 11 #[.pointer (some ⟨Y.s, 0, none⟩)] w fun e w' => e = .returned (.agg #[.int .i64 (V.st.length : Int), .int .i64 (V.mem.length : Int), .int .i64 (V.tabs.length : Int), .int .i64 (V.ct : Int), .bool V.only]) ∧ Below w.heap.size w w' := by
 rw [← h.alen, ← h.tlen, ← h.its]
 have hbV := (Below.refl w.heap.size w).alloc (Nat.le_refl _) (.cells #[.int .i64 0, .int .i64 0, .int .i64 0, .int .i64 0, .bool false] 38)
 have hbx := BoxO.new w #[.int .i64 0, .int .i64 0, .int .i64 0, .int .i64 0, .bool false] 38
 have h1 := h.below hbV
 have hml : ∀ W, MmAt W Y.mm Y.L Y.ns → Calls Tryz.prog 35 #[.pointer (some ⟨Y.mm, 0, none⟩)] W fun e w' => e = .returned (.int .i64 ((its Y.ns).length : Int)) ∧ w' = W := fun W hm => mmlen_any hm
 obtain ⟨W, hW⟩ : ∃ W, W = w.alloc (.cells #[.int .i64 0, .int .i64 0, .int .i64 0, .int .i64 0, .bool false] 38) := ⟨_, rfl⟩
 obtain ⟨g, hg⟩ : ∃ g, g = w.heap.size := ⟨_, rfl⟩
 obtain ⟨mn, hmn⟩ : ∃ mn, mn = (its Y.ns).length := ⟨_, rfl⟩
 have hgw : w.heap.size ≤ g := by omega
 rw [← hW] at hbV hbx h1
 rw [← hg] at hbx
 rw [← hmn] at hml ⊢
 have hS0 : BoxO W.drew 90 Y.s (Y.cells X.d V) ∧ LgAt W.drew Y.g X.d V.nm V.sz V.ct ∧ MmAt W.drew Y.mm Y.L Y.ns ∧ (∃ cs : List Value, cs.length = 5 ∧ BoxO W.drew 38 g cs) ∧ Below w.heap.size w W.drew := ⟨h1.box, h1.log, h1.mem.below (below_drew (Below.refl _ _)), ⟨_, rfl, hbx⟩, below_drew hbV⟩
 have HN : Hid (Y.s ∉ [g] ∧ Y.g ∉ [g] ∧ ∀ x ∈ Y.mm :: skF Y.L Y.ns, x ∉ [g]) := Lib.hid ⟨fun hm => by have := h.box.lt; have := List.mem_singleton.1 hm; omega, fun hm => by have := h.log.lt; have := List.mem_singleton.1 hm; omega, fun x hx hm => by have := h.mem.lt x hx; have := List.mem_singleton.1 hm; omega⟩
 have HML := Lib.hid hml
 have HV := Lib.hid hW
 have HG := Lib.hid hg
 have HS0 := Lib.hid hS0
 clear h h1 hW hg hS0 hbx hbV hml hmn
 go_enter Tryz.func11, Tryz.ntmps11
 go_wp2_with fail
 rw [← HV.out, ← HG.out]
 refine wp_region_held_drew (S := fun w' => BoxO w' 90 Y.s (Y.cells X.d V) ∧ LgAt w' Y.g X.d V.nm V.sz V.ct ∧ MmAt w' Y.mm Y.L Y.ns ∧ (∃ cs : List Value, cs.length = 5 ∧ BoxO w' 38 g cs) ∧ Below w.heap.size w w') rfl HS0.out (fun hSw => ?_)
 refine wpT (i := 0) (v := ?vst0) ?hst0 hSw ?kst0
 case hst0 => (intro w hSw; (have k2 := hSw.1.cell 2; have k3 := hSw.1.cell 3; have k4 := hSw.1.cell 4; have k6 := hSw.1.cell 6; have k10 := hSw.1.cell 10; simp only [Yw.cells, gE0, gE1] at k2 k3 k4 k6 k10); go_simp; try (with_reducible rfl))
 go_simp
 refine wpT (i := 1) (v := ?vst1) ?hst1 hSw ?kst1
 case hst1 => (intro w hSw; (have k2 := hSw.1.cell 2; have k3 := hSw.1.cell 3; have k4 := hSw.1.cell 4; have k6 := hSw.1.cell 6; have k10 := hSw.1.cell 10; simp only [Yw.cells, gE0, gE1] at k2 k3 k4 k6 k10); go_simp; try (with_reducible rfl))
 go_simp
 refine wpT (i := 2) (v := ?vst2) ?hst2 hSw ?kst2
 case hst2 => (intro w hSw; (have k2 := hSw.1.cell 2; have k3 := hSw.1.cell 3; have k4 := hSw.1.cell 4; have k6 := hSw.1.cell 6; have k10 := hSw.1.cell 10; simp only [Yw.cells, gE0, gE1] at k2 k3 k4 k6 k10); go_simp; try (with_reducible rfl))
 go_simp
 refine wpT (i := 4) (v := ?vst4) ?hst4 hSw ?kst4
 case hst4 => (intro w hSw; (have k2 := hSw.1.cell 2; have k3 := hSw.1.cell 3; have k4 := hSw.1.cell 4; have k6 := hSw.1.cell 6; have k10 := hSw.1.cell 10; simp only [Yw.cells, gE0, gE1] at k2 k3 k4 k6 k10); go_simp; try (with_reducible rfl))
 go_simp
 refine wpT (i := 5) (v := ?vst5) ?hst5 hSw ?kst5
 case hst5 => (intro w hSw; (have k2 := hSw.1.cell 2; have k3 := hSw.1.cell 3; have k4 := hSw.1.cell 4; have k6 := hSw.1.cell 6; have k10 := hSw.1.cell 10; simp only [Yw.cells, gE0, gE1] at k2 k3 k4 k6 k10); go_simp; try (with_reducible rfl))
 go_simp
 refine wpT (i := 6) (v := ?vst6) ?hst6 hSw ?kst6
 case hst6 => (intro w hSw; (have k2 := hSw.1.cell 2; have k3 := hSw.1.cell 3; have k4 := hSw.1.cell 4; have k6 := hSw.1.cell 6; have k10 := hSw.1.cell 10; simp only [Yw.cells, gE0, gE1] at k2 k3 k4 k6 k10); go_simp; try (with_reducible rfl))
 go_simp
 refine wpT (i := 7) (v := ?vst7) ?hst7 hSw ?kst7
 case hst7 => (intro w hSw; (have k2 := hSw.1.cell 2; have k3 := hSw.1.cell 3; have k4 := hSw.1.cell 4; have k6 := hSw.1.cell 6; have k10 := hSw.1.cell 10; simp only [Yw.cells, gE0, gE1] at k2 k3 k4 k6 k10); go_simp; try (with_reducible rfl))
 go_simp
 refine wpT (i := 9) (v := ?vst9) ?hst9 hSw ?kst9
 case hst9 => (intro w hSw; (have k2 := hSw.1.cell 2; have k3 := hSw.1.cell 3; have k4 := hSw.1.cell 4; have k6 := hSw.1.cell 6; have k10 := hSw.1.cell 10; simp only [Yw.cells, gE0, gE1] at k2 k3 k4 k6 k10); go_simp; try (with_reducible rfl))
 go_simp
 refine wpT (i := 10) (v := ?vst10) ?hst10 hSw ?kst10
 case hst10 => (intro w hSw; (have k2 := hSw.1.cell 2; have k3 := hSw.1.cell 3; have k4 := hSw.1.cell 4; have k6 := hSw.1.cell 6; have k10 := hSw.1.cell 10; simp only [Yw.cells, gE0, gE1] at k2 k3 k4 k6 k10); go_simp; try (with_reducible rfl))
 go_simp
 refine wpT (i := 11) (v := ?vst11) ?hst11 hSw ?kst11
 case hst11 => (intro w hSw; (have k2 := hSw.1.cell 2; have k3 := hSw.1.cell 3; have k4 := hSw.1.cell 4; have k6 := hSw.1.cell 6; have k10 := hSw.1.cell 10; simp only [Yw.cells, gE0, gE1] at k2 k3 k4 k6 k10); go_simp; try (with_reducible rfl))
 go_simp
 refine wpT (i := 12) (v := ?vst12) ?hst12 hSw ?kst12
 case hst12 => (intro w hSw; (have k2 := hSw.1.cell 2; have k3 := hSw.1.cell 3; have k4 := hSw.1.cell 4; have k6 := hSw.1.cell 6; have k10 := hSw.1.cell 10; simp only [Yw.cells, gE0, gE1] at k2 k3 k4 k6 k10); go_simp; try (with_reducible rfl))
 go_simp
 refine wpT (i := 13) (v := ?vst13) ?hst13 hSw ?kst13
 case hst13 => (intro w hSw; (have k2 := hSw.1.cell 2; have k3 := hSw.1.cell 3; have k4 := hSw.1.cell 4; have k6 := hSw.1.cell 6; have k10 := hSw.1.cell 10; simp only [Yw.cells, gE0, gE1] at k2 k3 k4 k6 k10); go_simp; try (with_reducible rfl))
 go_simp
 refine wpT (i := 14) (v := ?vst14) ?hst14 hSw ?kst14
 case hst14 => (intro w hSw; (have k2 := hSw.1.cell 2; have k3 := hSw.1.cell 3; have k4 := hSw.1.cell 4; have k6 := hSw.1.cell 6; have k10 := hSw.1.cell 10; simp only [Yw.cells, gE0, gE1] at k2 k3 k4 k6 k10); go_simp; try (with_reducible rfl))
 go_simp
 refine wpT (i := 15) (v := ?vst15) ?hst15 hSw ?kst15
 case hst15 => (intro w hSw; (have k2 := hSw.1.cell 2; have k3 := hSw.1.cell 3; have k4 := hSw.1.cell 4; have k6 := hSw.1.cell 6; have k10 := hSw.1.cell 10; simp only [Yw.cells, gE0, gE1] at k2 k3 k4 k6 k10); go_simp; try (with_reducible rfl))
 go_simp
 refine wpT (i := 16) (v := ?vst16) ?hst16 hSw ?kst16
 case hst16 => (intro w hSw; (have k2 := hSw.1.cell 2; have k3 := hSw.1.cell 3; have k4 := hSw.1.cell 4; have k6 := hSw.1.cell 6; have k10 := hSw.1.cell 10; simp only [Yw.cells, gE0, gE1] at k2 k3 k4 k6 k10); go_simp; try (with_reducible rfl))
 go_simp
 refine wpT (i := 17) (v := ?vst17) ?hst17 hSw ?kst17
 case hst17 => (intro w hSw; (have k2 := hSw.1.cell 2; have k3 := hSw.1.cell 3; have k4 := hSw.1.cell 4; have k6 := hSw.1.cell 6; have k10 := hSw.1.cell 10; simp only [Yw.cells, gE0, gE1] at k2 k3 k4 k6 k10); go_simp; try (with_reducible rfl))
 go_simp
 refine wpT (i := 19) (v := ?vst19) ?hst19 hSw ?kst19
 case hst19 => (intro w hSw; (have k2 := hSw.1.cell 2; have k3 := hSw.1.cell 3; have k4 := hSw.1.cell 4; have k6 := hSw.1.cell 6; have k10 := hSw.1.cell 10; simp only [Yw.cells, gE0, gE1] at k2 k3 k4 k6 k10); go_simp; try (with_reducible rfl))
 go_simp
 refine wpT (i := 20) (v := ?vst20) ?hst20 hSw ?kst20
 case hst20 => (intro w hSw; (have k2 := hSw.1.cell 2; have k3 := hSw.1.cell 3; have k4 := hSw.1.cell 4; have k6 := hSw.1.cell 6; have k10 := hSw.1.cell 10; simp only [Yw.cells, gE0, gE1] at k2 k3 k4 k6 k10); go_simp; try (with_reducible rfl))
 go_simp
 refine wpT (i := 21) (v := ?vst21) ?hst21 hSw ?kst21
 case hst21 => (intro w hSw; (have k2 := hSw.1.cell 2; have k3 := hSw.1.cell 3; have k4 := hSw.1.cell 4; have k6 := hSw.1.cell 6; have k10 := hSw.1.cell 10; simp only [Yw.cells, gE0, gE1] at k2 k3 k4 k6 k10); go_simp; try (with_reducible rfl))
 go_simp
 refine wpT (i := 22) (v := ?vst22) ?hst22 hSw ?kst22
 case hst22 => (intro w hSw; (have k2 := hSw.1.cell 2; have k3 := hSw.1.cell 3; have k4 := hSw.1.cell 4; have k6 := hSw.1.cell 6; have k10 := hSw.1.cell 10; simp only [Yw.cells, gE0, gE1] at k2 k3 k4 k6 k10); go_simp; try (with_reducible rfl))
 go_simp
 refine wpAnyH_ready (rs := [3]) (by kernel_rfl) (by simp) ?_
 refine AllReadyH.cons rfl (fun K hK => ?_) AllReadyH.nil
 go_simp
 with_reducible refine (aiload_any Y.s 6 (Y.A.n : Int) _ (hSw.1.cell 6)).mono ?_
 rintro e w3 ⟨rfl, rfl⟩
 go_simp
 refine hK.out _ _ hSw (fun hSn => ?_)
 clear hK K hSw
 have hSw := hSn
 clear hSn
 go_simp
 refine wpAnyH_ready (rs := [8]) (by kernel_rfl) (by simp) ?_
 refine AllReadyH.cons rfl (fun K hK => ?_) AllReadyH.nil
 go_simp
 with_reducible refine (HML.out _ hSw.2.2.1).mono ?_
 rintro e w3 ⟨rfl, rfl⟩
 go_simp
 refine hK.out _ _ hSw (fun hSn => ?_)
 clear hK K hSw
 have hSw := hSn
 clear hSn
 go_simp
 refine wpAnyH_ready (rs := [18]) (by kernel_rfl) (by simp) ?_
 refine AllReadyH.cons rfl (fun K hK => ?_) AllReadyH.nil
 go_simp
 with_reducible refine (lcount_any Y.g X.d V.nm V.sz V.ct _ hSw.2.1).mono ?_
 rintro e w3 ⟨rfl, rfl⟩
 go_simp
 refine hK.out _ _ hSw (fun hSn => ?_)
 clear hK K hSw
 have hSw := hSn
 clear hSn
 go_simp
 refine wpT (i := 23) (v := ?vst23) ?hst23 hSw ?kst23
 case hst23 => (intro w hSw; (have k2 := hSw.1.cell 2; have k3 := hSw.1.cell 3; have k4 := hSw.1.cell 4; have k6 := hSw.1.cell 6; have k10 := hSw.1.cell 10; simp only [Yw.cells, gE0, gE1] at k2 k3 k4 k6 k10); go_simp; try (with_reducible rfl))
 go_simp
 refine wpAnyH_ready (rs := [24]) (by kernel_rfl) (by simp) ?_
 refine AllReadyH.cons rfl (fun K hK => ?_) AllReadyH.nil
 (clear HV HS0; generalize W.drew = Wd at hSw ⊢; have hSv := hSw; obtain ⟨hs1, hs2, hs3, ⟨cs, hcl, hcb⟩, hbl⟩ := hSv; obtain ⟨a0, a1, a2, a3, a4, rfl⟩ := five_of hcl; have s0 := hcb.cell 0; have s1 := hcb.cell 1; have s2 := hcb.cell 2; have s3 := hcb.cell 3; have s4 := hcb.cell 4; have z0 := hcb.free 0; have z1 := hcb.free 1; have z2 := hcb.free 2; have z3 := hcb.free 3; have z4 := hcb.free 4; simp only [gE0, gE1] at s0 s1 s2 s3 s4)
 go_simp
 refine hK.out _ _ ⟨hs1.chg (cg5 _ _ _ _ _ _ _) HN.out.1, hs2.chg (cg5 _ _ _ _ _ _ _) HN.out.2.1, hs3.chg (cg5 _ _ _ _ _ _ _) HN.out.2.2, ⟨_, by simp, ((((hcb.store 0 _).store 1 _).store 2 _).store 3 _).store 4 _⟩, ((((hbl.setCell (p := ⟨g, 0, none⟩) hgw _).setCell (p := ⟨g, 1, none⟩) hgw _).setCell (p := ⟨g, 2, none⟩) hgw _).setCell (p := ⟨g, 3, none⟩) hgw _).setCell (p := ⟨g, 4, none⟩) hgw _⟩ (fun hSn => ?_)
 clear hK K hSw
 have hSw := hSn
 clear hSn
 go_simp
 refine wpAnyH_done (by kernel_rfl) ?_ _
 clear HML
 go_wp2
 refine bodyPost_ret (v := .agg #[.int .i64 (Y.A.n : Int), .int .i64 (mn : Int), .int .i64 (Y.T.n : Int), .int .i64 (V.ct : Int), .bool V.only]) (by simp [results, go_sem, *]) rfl ⟨rfl, ?_⟩
 exact ((((hbl.setCell (p := ⟨g, 0, none⟩) hgw _).setCell (p := ⟨g, 1, none⟩) hgw _).setCell (p := ⟨g, 2, none⟩) hgw _).setCell (p := ⟨g, 3, none⟩) hgw _).setCell (p := ⟨g, 4, none⟩) hgw _
end
end Go.Proofs.YtdkjoigpahafmaaGreatDoor
