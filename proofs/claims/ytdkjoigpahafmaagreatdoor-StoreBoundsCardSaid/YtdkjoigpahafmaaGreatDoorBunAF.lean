/- Texts SkipB, SkipC, SkipE, PlainView, EditG, ItemB in one. No conditions. -/
import Derived.Test.YtdkjoigpahafmaaGreatDoorBunAA
import Derived.Test.YtdkjoigpahafmaaGreatDoorBunAE
import Derived.Deep.RegionHeld3
import Derived.Test.YtdkjoigpahafmaaGreatDoorBunAD

set_option linter.unusedSimpArgs false
set_option linter.unusedVariables false
set_option maxRecDepth 100000
set_option maxHeartbeats 16000000
namespace Go.Proofs.YtdkjoigpahafmaaGreatDoor
section
open Go Go.RowKit Go.Lib
theorem info_apt : (Tryz.prog.info? 235).map (fun i => (i.zero.map (·.cells), i.size, i.bytes)) = some (some #[.pointer none], 1, 8) := by kernel_rfl
theorem make_tower (h : Nat) (h6 : h ≤ 6) : ∃ cs : Array Value, cs.toList = List.replicate h (.pointer none) ∧ ∀ W : World, (Instr.makeSlice 236 (.int .i64 (h : Int)) (.int .i64 (h : Int))).run Tryz.prog W = .ok (.slice (some ⟨W.heap.size, 0, none⟩) h h) (W.alloc (.cells cs 235)) := by
 obtain ⟨i, hi, hz⟩ := Option.map_eq_some_iff.1 info_apt
 simp only [Prod.mk.injEq] at hz
 obtain ⟨hz0, hz1, hz2⟩ := hz
 obtain ⟨z, hz3, hz4⟩ := Option.map_eq_some_iff.1 hz0
 refine ⟨madeCells #[.pointer none] h, toList_madeCells_one _ h, fun W => ?_⟩
 have hr := run_make (P := Tryz.prog) W 236 235 i z Tryz.underlying236 hi hz3 .i64 .i64 h h (by omega) (by omega) (by rw [hz2]; omega) (by omega)
 simpa [hz1, hz4] using hr
theorem tower_mem {w W : World} {g : Nat} (hb : Below w.heap.size w W) (x : It) (h : Nat) (cs : Array Value) (hcs : cs.toList = List.replicate h (.pointer none)) (hg : W.heap.size = g) :
  BoxO ((W.alloc (.cells cs 235)).alloc (.cells #[.int .i64 x.s, .int .i64 x.k, .int .u64 (x.t : Int), .int .u64 (x.v : Int), .int .i64 x.x, .slice (some ⟨g, 0, none⟩) h h] 238)).drew 238 (g + 1) (x.cells ++ [.slice (some ⟨g, 0, none⟩) h h]) ∧
  BoxO ((W.alloc (.cells cs 235)).alloc (.cells #[.int .i64 x.s, .int .i64 x.k, .int .u64 (x.t : Int), .int .u64 (x.v : Int), .int .i64 x.x, .slice (some ⟨g, 0, none⟩) h h] 238)).drew 235 g (List.replicate h (.pointer none)) ∧ g + 1 ≠ g ∧ w.heap.size ≤ g + 1 ∧ w.heap.size ≤ g ∧ Below w.heap.size w ((W.alloc (.cells cs 235)).alloc (.cells #[.int .i64 x.s, .int .i64 x.k, .int .u64 (x.t : Int), .int .u64 (x.v : Int), .int .i64 x.x, .slice (some ⟨g, 0, none⟩) h h] 238)).drew := by
 have h1 : (W.alloc (.cells cs 235)).heap.size = W.heap.size + 1 := by simp
 have h2 := hb.size
 have h3 : BoxO (W.alloc (.cells cs 235)) 235 W.heap.size (List.replicate h (.pointer none)) := hcs ▸ BoxO.new W cs 235
 subst hg
 exact ⟨by rw [← h1]; exact (BoxO.new _ _ _).drew, (h3.alloc _).drew, by omega, by omega, h2, below_drew ((hb.alloc h2 _).alloc (by omega) _)⟩
theorem tower_any (x : It) (h : Nat) (w : World) (h1 : 1 ≤ h) (h6 : h ≤ 6) :
  Calls Tryz.prog 163 #[x.val, .int .i64 (h : Int)] w fun e w' => ∃ b tb, e = .returned (.pointer (some ⟨b, 0, none⟩)) ∧ BoxO w' 238 b (x.cells ++ [.slice (some ⟨tb, 0, none⟩) h h]) ∧ BoxO w' 235 tb (List.replicate h (.pointer none)) ∧ b ≠ tb ∧ w.heap.size ≤ b ∧ w.heap.size ≤ tb ∧ Below w.heap.size w w' := by
 obtain ⟨cs, hcs, hmk⟩ := make_tower h h6
 have hb1 : (1 : Int) ≤ (h : Int) := by omega
 have hb6 : (h : Int) ≤ 6 := by omega
 unfold It.val
 go_enter Tryz.func163, Tryz.ntmps163
 go_wp2_with fail
 go_region
 all_goals go_wp2
 all_goals go_ret
 all_goals
  have hm := tower_mem (g := w.heap.size + 1) ((Below.refl w.heap.size w).alloc (Nat.le_refl _) (.cells #[.int .i64 x.s, .int .i64 x.k, .int .u64 (x.t : Int), .int .u64 (x.v : Int), .int .i64 x.x] 27)) x h cs hcs (by simp)
  exact ⟨_, _, rfl, hm⟩
structure SkC (w : World) (ns : List Nd) : Prop where
 node : ∀ n ∈ ns, BoxO w 238 n.b (n.x.cells ++ [.slice (some ⟨n.tb, 0, none⟩) n.c n.c])
 tower : ∀ (i : Nat) (n : Nd), ns[i]? = some n → ∃ cs, BoxO w 235 n.tb cs ∧ cs.length = n.c ∧ ∀ l, l < n.h → cs[l]? = some (.pointer ((nxb l (ns.drop (i + 1))).map fun b => ⟨b, 0, none⟩))
 cap : ∀ n ∈ ns, n.h ≤ n.c ∧ n.c ≤ 6
 apart : (ns.flatMap fun n => [n.b, n.tb]).Nodup
structure SkAt (w : World) (L : Nat) (ns : List Nd) : Prop where
 core : SkC w ns
 head : ∃ hd tl, ns = hd :: tl ∧ hd.h = 6 ∧ BoxO w 243 L [.pointer (some ⟨hd.b, 0, none⟩), .int .i64 (tl.length : Int)]
 out : L ∉ ns.flatMap fun n => [n.b, n.tb]
 tall : ∀ n ∈ ns, 1 ≤ n.h
 rises : Rises (its ns)
def skF (L : Nat) (ns : List Nd) : List Nat := L :: ns.flatMap fun n => [n.b, n.tb]
def bk (ns : List Nd) (j : Nat) : Nat := ((ns[j]?).map (·.b)).getD 0
def pv (ns : List Nd) (j : Nat) : Value := .pointer (some ⟨bk ns j, 0, none⟩)
theorem bk_of {ns : List Nd} {j : Nat} {n : Nd} (h : ns[j]? = some n) : bk ns j = n.b := by simp [bk, h]
variable {w w' : World} {L : Nat} {ns : List Nd}
theorem SkC.chg {F : List Nat} (h : SkC w ns) (c : Chg F w w') (hF : ∀ g ∈ ns.flatMap (fun n => [n.b, n.tb]), g ∉ F) : SkC w' ns :=
 ⟨fun n hn => (h.node n hn).chg c (hF _ (List.mem_flatMap.2 ⟨n, hn, by simp⟩)), fun i n hi => let ⟨cs, a, b, d⟩ := h.tower i n hi; ⟨cs, a.chg c (hF _ (List.mem_flatMap.2 ⟨n, List.mem_of_getElem? hi, by simp⟩)), b, d⟩, h.cap, h.apart⟩
theorem SkAt.chg {F : List Nat} (h : SkAt w L ns) (c : Chg F w w') (hF : ∀ g ∈ skF L ns, g ∉ F) : SkAt w' L ns :=
 ⟨h.core.chg c (fun g hg => hF g (List.mem_cons_of_mem _ hg)), let ⟨hd, tl, a, b, d⟩ := h.head; ⟨hd, tl, a, b, d.chg c (hF L List.mem_cons_self)⟩, h.out, h.tall, h.rises⟩
theorem SkAt.below (h : SkAt w L ns) (c : Below w.heap.size w w') : SkAt w' L ns := h.chg (Chg.of_below c []) (fun _ _ => by simp)
theorem SkC.below (h : SkC w ns) (c : Below w.heap.size w w') : SkC w' ns := h.chg (Chg.of_below c []) (fun _ _ => by simp)
theorem nxb_some {l b : Nat} {r : List Nd} (h : nxb l r = some b) : ∃ n, nxt l r = some n ∧ n.b = b := by
 unfold nxb at h
 exact Option.map_eq_some_iff.1 h
theorem nxb_none {l : Nat} {r : List Nd} (h : nxb l r = none) : nxt l r = none := by
 unfold nxb at h
 exact Option.map_eq_none_iff.1 h
theorem SkC.ptr (h : SkC w ns) (l i : Nat) : NdPtr w ((nxb l (ns.drop i)).map fun b => ⟨b, 0, none⟩) := by
 cases e : nxb l (ns.drop i) with
 | none => exact trivial
 | some b =>
  obtain ⟨n, h1, rfl⟩ := nxb_some e
  have hm : n ∈ ns := List.mem_of_mem_drop (List.mem_of_find?_eq_some h1)
  exact ⟨_, _, rfl, h.node n hm, rfl⟩
theorem SkC.look (h : SkC w ns) {i l : Nat} {n : Nd} (hi : ns[i]? = some n) (hl : l < n.h) :
  w.cell? ⟨n.b, 5, none⟩ = some (.slice (some ⟨n.tb, 0, none⟩) n.c n.c) ∧ (w.cell? ⟨n.tb, l, none⟩ = some (.pointer ((nxb l (ns.drop (i + 1))).map fun b => ⟨b, 0, none⟩)) ∧ w.frozen? ⟨n.tb, l, none⟩ = false) ∧ l < n.c ∧ n.c ≤ 6 := by
 have hm := List.mem_of_getElem? hi
 obtain ⟨cs, h1, h2, h3⟩ := h.tower i n hi
 have h4 := h.cap n hm
 refine ⟨by rw [(h.node n hm).cell]; rfl, ⟨by rw [h1.cell]; exact h3 l hl, h1.free l⟩, by omega, h4.2⟩
def rk (ns : List Nd) : Value → Nat
 | .pointer (some a) => ns.length - ns.findIdx (fun n => n.b == a.block)
 | _ => 0
theorem SkC.inj (h : SkC w ns) {i j : Nat} {n m : Nd} (hi : ns[i]? = some n) (hj : ns[j]? = some m) (hb : n.b = m.b) : i = j := by
 have key : ∀ (ns : List Nd) (i j : Nat) (n m : Nd), (ns.flatMap fun n => [n.b, n.tb]).Nodup → ns[i]? = some n → ns[j]? = some m → n.b = m.b → i = j := by
  intro ns
  induction ns with
  | nil => intro i j n m _ hi; simp at hi
  | cons a r ih =>
   intro i j n m hd hi hj hb
   simp only [List.flatMap_cons, List.cons_append, List.nil_append, List.nodup_cons, List.mem_cons, not_or] at hd
   obtain ⟨⟨_, h2⟩, _, h4⟩ := hd
   have hin : ∀ (k : Nat) (u : Nd), r[k]? = some u → u.b ≠ a.b := fun k u hu e => h2 (List.mem_flatMap.2 ⟨u, List.mem_of_getElem? hu, by simp [e]⟩)
   cases i with
   | zero =>
    cases j with
    | zero => rfl
    | succ j =>
     simp only [gE0, Option.some.injEq, gE1] at hi hj
     subst hi
     exact absurd hb.symm (hin j m hj)
   | succ i =>
    cases j with
    | zero =>
     simp only [gE0, Option.some.injEq, gE1] at hi hj
     subst hj
     exact absurd hb (hin i n hi)
    | succ j =>
     simp only [gE1] at hi hj
     rw [ih i j n m h4 hi hj hb]
 exact key ns i j n m h.apart hi hj hb
theorem SkC.rk (h : SkC w ns) {i : Nat} {n : Nd} (hi : ns[i]? = some n) : rk ns (.pointer (some ⟨n.b, 0, none⟩)) = ns.length - i := by
 unfold Go.Proofs.YtdkjoigpahafmaaGreatDoor.rk
 have hl : i < ns.length := (List.getElem?_eq_some_iff.1 hi).1
 have h1 : ns.findIdx (fun m => m.b == n.b) < ns.length := List.findIdx_lt_length_of_exists ⟨n, List.mem_of_getElem? hi, by simp⟩
 have h2 : (ns[ns.findIdx (fun m => m.b == n.b)]).b = n.b := by
  have := List.findIdx_getElem (w := h1)
  simpa using this
 have := h.inj (List.getElem?_eq_getElem h1) hi h2
 simp only
 omega
end
section
open Go Go.RowKit Go.Lib
theorem SkAt.lt {w : World} {L : Nat} {ns : List Nd} (h : SkAt w L ns) : ∀ g ∈ skF L ns, g < w.heap.size := by
 intro g hg
 rcases List.mem_cons.1 hg with rfl | hg
 ·obtain ⟨_, _, _, _, hL⟩ := h.head
  exact hL.lt
 ·obtain ⟨n, hn, hg⟩ := List.mem_flatMap.1 hg
  simp only [List.mem_cons, List.not_mem_nil, or_false] at hg
  rcases hg with rfl | rfl
  ·exact (h.core.node n hn).lt
  ·obtain ⟨i, hi⟩ := List.mem_iff_getElem?.1 hn
   obtain ⟨cs, h1, _⟩ := h.core.tower i n hi
   exact h1.lt
def oc (ns : List Nd) (J : Nat → Nat) (k : Nat) : List Value := (List.range 6).map fun l => if k ≤ l then pv ns (J l) else .pointer none
theorem oc_set (ns : List Nd) (J : Nat → Nat) (k i : Nat) (hk : k < 6) : (oc ns J (k + 1)).set k (pv ns i) = oc ns (fun l => if l = k then i else J l) k := by
 have e : k = 0 ∨ k = 1 ∨ k = 2 ∨ k = 3 ∨ k = 4 ∨ k = 5 := by omega
 rcases e with rfl | rfl | rfl | rfl | rfl | rfl <;> simp [oc, List.range, List.range.loop]
theorem oc_at {w : World} {g j k : Nat} {ns : List Nd} {J : Nat → Nat} (h : BoxO w 230 g (oc ns J k)) (hj : j < 6) : ∃ u, w.cell? ⟨g, j, none⟩ = some u := by
 rw [h.cell]
 exact ⟨_, List.getElem?_eq_getElem (by simpa [oc] using hj)⟩
theorem before_any (L q : Nat) (ns : List Nd) (x : It) (w : World) (h : SkAt w L ns) (hq : q = pos (its ns) x + 1) :
  Calls Tryz.prog 161 #[.pointer (some ⟨L, 0, none⟩), x.val] w fun e w' => ∃ J : Nat → Nat, (∀ l, l < 6 → Pred ns l q (J l)) ∧ e = .returned (.agg #[pv ns (J 0), pv ns (J 1), pv ns (J 2), pv ns (J 3), pv ns (J 4), pv ns (J 5)]) ∧ Below w.heap.size w w' := by
 have hlt := h.lt
 have hW := (((Below.refl w.heap.size w).alloc (Nat.le_refl _) (.cells #[.int .i64 x.s, .int .i64 x.k, .int .u64 (x.t : Int), .int .u64 (x.v : Int), .int .i64 x.x] 27)).alloc (by simp) (.cells #[.pointer none, .pointer none, .pointer none, .pointer none, .pointer none, .pointer none] 230)).alloc (by simp; omega) (.cells #[.pointer none, .pointer none, .pointer none, .pointer none, .pointer none, .pointer none] 230)
 have hs3 := h.below hW
 have hbx : BoxO (((w.alloc (.cells #[.int .i64 x.s, .int .i64 x.k, .int .u64 (x.t : Int), .int .u64 (x.v : Int), .int .i64 x.x] 27)).alloc (.cells #[.pointer none, .pointer none, .pointer none, .pointer none, .pointer none, .pointer none] 230)).alloc (.cells #[.pointer none, .pointer none, .pointer none, .pointer none, .pointer none, .pointer none] 230)) 27 w.heap.size x.cells := ((BoxO.new w #[.int .i64 x.s, .int .i64 x.k, .int .u64 (x.t : Int), .int .u64 (x.v : Int), .int .i64 x.x] 27).alloc _).alloc _
 have hb4 : BoxO (((w.alloc (.cells #[.int .i64 x.s, .int .i64 x.k, .int .u64 (x.t : Int), .int .u64 (x.v : Int), .int .i64 x.x] 27)).alloc (.cells #[.pointer none, .pointer none, .pointer none, .pointer none, .pointer none, .pointer none] 230)).alloc (.cells #[.pointer none, .pointer none, .pointer none, .pointer none, .pointer none, .pointer none] 230)) 230 (w.heap.size + 1) (oc ns (fun _ => 0) 6) := by
  have := (BoxO.new (w.alloc (.cells #[.int .i64 x.s, .int .i64 x.k, .int .u64 (x.t : Int), .int .u64 (x.v : Int), .int .i64 x.x] 27)) #[.pointer none, .pointer none, .pointer none, .pointer none, .pointer none, .pointer none] 230).alloc (.cells #[.pointer none, .pointer none, .pointer none, .pointer none, .pointer none, .pointer none] 230)
  simpa [oc, List.range, List.range.loop] using this
 have hb5 : BoxO (((w.alloc (.cells #[.int .i64 x.s, .int .i64 x.k, .int .u64 (x.t : Int), .int .u64 (x.v : Int), .int .i64 x.x] 27)).alloc (.cells #[.pointer none, .pointer none, .pointer none, .pointer none, .pointer none, .pointer none] 230)).alloc (.cells #[.pointer none, .pointer none, .pointer none, .pointer none, .pointer none, .pointer none] 230)) 230 (w.heap.size + 2) (oc ns (fun _ => 0) 6) := by
  have := BoxO.new ((w.alloc (.cells #[.int .i64 x.s, .int .i64 x.k, .int .u64 (x.t : Int), .int .u64 (x.v : Int), .int .i64 x.x] 27)).alloc (.cells #[.pointer none, .pointer none, .pointer none, .pointer none, .pointer none, .pointer none] 230)) #[.pointer none, .pointer none, .pointer none, .pointer none, .pointer none, .pointer none] 230
  simpa [oc, List.range, List.range.loop] using this
 obtain ⟨hd, tl, hns, h6, hL⟩ := hs3.head
 have l0 := hL.cell 0
 simp only [gE0] at l0
 have e0 : Value.pointer (some ⟨hd.b, 0, none⟩) = pv ns 0 := by unfold pv; rw [bk_of (ns := ns) (j := 0) (n := hd) (by rw [hns]; rfl)]
 have hql : q ≤ ns.length := by
  have h1 := pos_le (its ns) x
  have h2 : (its ns).length + 1 = ns.length := by rw [hns]; simp [its]
  omega
 have hless := fun (k : Nat) (n : Nd) (hk : 0 < k) (e : ns[k]? = some n) => its_pos (x := x) h.rises hk e
 obtain ⟨gs, hgs⟩ : ∃ gs, gs = w.heap.size := ⟨_, rfl⟩
 have hgl : ∀ g ∈ skF L ns, g ∉ [gs + 2] := fun g hg => by have := hlt g hg; simp; omega
 have HS3 := Lib.hid hs3
 have HGL := Lib.hid hgl
 have HW := Lib.hid hW
 have HBX := Lib.hid hbx
 have HB5 := Lib.hid hb5
 have HLS := Lib.hid hless
 have HE0 := Lib.hid e0
 have HH6 := Lib.hid h6
 have HNS := Lib.hid hns
 have HQ := Lib.hid hq
 have HGS := Lib.hid hgs
 have HB4 := Lib.hid hb4
 clear hs3 hgl hW hbx hb4 hb5 hless e0 h6 hns hq hgs hlt h hL
 unfold It.val
 go_enter Tryz.func161, Tryz.ntmps161
 go_wp2_with fail
 generalize hV : (((w.alloc (.cells #[.int .i64 x.s, .int .i64 x.k, .int .u64 (x.t : Int), .int .u64 (x.v : Int), .int .i64 x.x] 27)).alloc (.cells #[.pointer none, .pointer none, .pointer none, .pointer none, .pointer none, .pointer none] 230)).alloc (.cells #[.pointer none, .pointer none, .pointer none, .pointer none, .pointer none, .pointer none] 230)) = V at *
 clear hV l0
 go_loopw [6, 7] (fun at_ hI wr => ∃ (k i : Nat) (n : Nd) (J : Nat → Nat), hI = .int .i64 ((k : Int) - 1) ∧ at_ = .pointer (some ⟨n.b, 0, none⟩) ∧ Hid (k ≤ 6 ∧ ns[i]? = some n ∧ k ≤ n.h ∧ i < q ∧ ∀ l, k ≤ l → l < 6 → Pred ns l q (J l)) ∧ Hid (BoxO wr 230 (w.heap.size + 2) (oc ns J k)) ∧ Chg [w.heap.size + 2] V wr) (fun _ hI _ => (intOf hI + 1).toNat)
 case atStart => exact ⟨6, 0, hd, fun _ => 0, rfl, rfl, Lib.hid ⟨Nat.le_refl _, by rw [HNS.out]; rfl, by rw [HH6.out]; exact Nat.le_refl _, by rw [HQ.out]; omega, fun l h1 h2 => absurd h2 (by omega)⟩, HB5, Chg.refl _ _⟩
 case round =>
  obtain ⟨k, i, n, J, rfl, rfl, HK, HB, hc⟩ := hrel
  cases k with
  | zero =>
   have hk0 : ((0 : Int) ≤ ((0 : Nat) : Int) - 1) = False := eq_false (by omega)
   have g5 := HB.out
   have g4 := HB4.out.chg hc (by simp)
   have o0 := g5.cell 0
   have o1 := g5.cell 1
   have o2 := g5.cell 2
   have o3 := g5.cell 3
   have o4 := g5.cell 4
   have o5 := g5.cell 5
   have r0 := g4.cell 0
   have r1 := g4.cell 1
   have r2 := g4.cell 2
   have r3 := g4.cell 3
   have r4 := g4.cell 4
   have r5 := g4.cell 5
   have f0 := g4.free 0
   have f1 := g4.free 1
   have f2 := g4.free 2
   have f3 := g4.free 3
   have f4 := g4.free 4
   have f5 := g4.free 5
   simp [oc, pv, List.range, List.range.loop] at o0 o1 o2 o3 o4 o5 r0 r1 r2 r3 r4 r5
   have HC := Lib.hid (show Chg [w.heap.size + 1, w.heap.size + 2] w wr from (Chg.of_below HW.out _).trans (hc.mono (G := [w.heap.size + 1, w.heap.size + 2]) (fun g hg => .inl (by rw [List.mem_singleton.1 hg]; simp))) (fun g hg => .inl hg))
   clear g4 g5 hc HB
   go_wp2
   refine bodyPost_ret (v := .agg #[pv ns (J 0), pv ns (J 1), pv ns (J 2), pv ns (J 3), pv ns (J 4), pv ns (J 5)]) (by simp [results, go_sem, pv, *]) rfl ⟨J, fun l hl => HK.out.2.2.2.2 l (Nat.zero_le _) hl, rfl, ?_⟩
   exact ((((((HC.out.setCell _ (.inl (by simp))).setCell _ (.inl (by simp))).setCell _ (.inl (by simp))).setCell _ (.inl (by simp))).setCell _ (.inl (by simp))).setCell _ (.inl (by simp))).below (Nat.le_refl _) (fun g hg => by simp at hg; omega)
  | succ j =>
   have hj0 : (((j + 1 : Nat) : Int) - 1) = (j : Int) := by omega
   rw [hj0]
   have hjp : (0 : Int) ≤ (j : Int) := by omega
   have hwj : IntKind.i64.wrap (j : Int) = (j : Int) := IntWalk.i64_in _ (by have := HK.out.1; omega)
   have hsr := HS3.out.chg hc (fun g hg => by have := HGL.out g hg; rwa [HGS.out] at this)
   obtain ⟨n5, ⟨nl, nf⟩, nc, nc6⟩ := hsr.core.look (l := j) HK.out.2.1 (by have := HK.out.2.2.1; omega)
   have hjc : (j : Int) < (n.c : Int) := by omega
   have hld := apload_any n.tb j _ wr nl (hsr.core.ptr j (i + 1))
   have HLD := Lib.hid hld
   have HSR := Lib.hid hsr
   clear hld hsr nl nf
   go_wp2_with fail
   refine HLD.out.mono ?_
   rintro e w1 ⟨rfl, rfl⟩
   clear HLD
   go_wp2_with fail
   generalize hbe : nxb j (ns.drop (i + 1)) = be
   have HBE := Lib.hid hbe
   clear hbe
   go_loopw [6, 8] (fun at2 nx w2 => ∃ (i2 : Nat) (n2 : Nd) (b2 : Option Nat), at2 = .pointer (some ⟨n2.b, 0, none⟩) ∧ nx = .pointer (b2.map fun b => ⟨b, 0, none⟩) ∧ Hid (nxb j (ns.drop (i2 + 1)) = b2 ∧ ns[i2]? = some n2 ∧ j < n2.h ∧ i2 < q) ∧ Hid (BoxO w2 230 (w.heap.size + 2) (oc ns J (j + 1))) ∧ Chg [w.heap.size + 2] V w2) (fun at2 _ _ => rk ns at2)
   case atStart => exact ⟨i, n, be, rfl, rfl, Lib.hid ⟨HBE.out, HK.out.2.1, by have := HK.out.2.2.1; omega, HK.out.2.2.2.1⟩, HB, hc⟩
   case round =>
    clear HB HSR hc HBE n5 hjc nc nc6
    obtain ⟨i2, n2, b2, rfl, rfl, HK2, HB, hc⟩ := hrel
    have hsr := HS3.out.chg hc (fun g hg => by have := HGL.out g hg; rwa [HGS.out] at this)
    have hbx := HBX.out.chg hc (by simp)
    cases b2 with
    | none =>
     simp only [Option.map_none]
     go_wp2_with fail
     refine wp_region_held_drew (S := fun w' => Below wr.heap.size wr w') rfl (below_drew (Below.refl _ _)) (fun hSw => ?_)
     refine wpT (i := 0) (v := ?vkn0) ?hkn0 hSw ?kkn0
     case hkn0 => (intro w hSw; skip; go_simp; try (with_reducible rfl))
     go_simp
     refine wpT (i := 1) (v := ?vkn1) ?hkn1 hSw ?kkn1
     case hkn1 => (intro w hSw; skip; go_simp; try (with_reducible rfl))
     go_simp
     refine wpT (i := 2) (v := ?vkn2) ?hkn2 hSw ?kkn2
     case hkn2 => (intro w hSw; skip; go_simp; try (with_reducible rfl))
     go_simp
     refine wpT0 (i := 3) hSw ?_
     go_simp
     refine wpT0 (i := 4) hSw ?_
     go_simp
     refine wpT0 (i := 5) hSw ?_
     go_simp
     refine wpT0 (i := 6) hSw ?_
     go_simp
     refine wpT0 (i := 7) hSw ?_
     go_simp
     refine wpT0 (i := 8) hSw ?_
     go_simp
     refine wpT (i := 9) (v := ?vkn9) ?hkn9 hSw ?kkn9
     case hkn9 => (intro w hSw; skip; go_simp; try (with_reducible rfl))
     go_simp
     refine wpAnyH_done (by kernel_rfl) ?_ _
     have HP := Lib.hid (show Pred ns j q i2 from ⟨HK2.out.2.2.2, ⟨n2, HK2.out.2.1, HK2.out.2.2.1⟩, fun m n' h1 h2 h3 => nxt_none (nxb_none HK2.out.1) m n' h1 h3⟩)
     have hsv := hSw
     clear hSw hsr hbx
     generalize hXe : wr.drew = X at *
     clear hXe
     have hc3 : Chg [w.heap.size + 2] V X := hc.trans (Chg.of_below hsv [w.heap.size + 2]) (fun g hg => .inl hg)
     have hb3 := HB.out.below hsv
     have h56 : j < 6 := by have := HK.out.1; omega
     obtain ⟨u, hu⟩ := oc_at hb3 h56
     have hz := hb3.free j
     have hst : BoxO (X.setCell ⟨w.heap.size + 2, j, none⟩ (.pointer (some ⟨n2.b, 0, none⟩))) 230 (w.heap.size + 2) (oc ns (fun l => if l = j then i2 else J l) j) := by
      have e := hb3.store j (.pointer (some ⟨n2.b, 0, none⟩))
      have e2 := oc_set ns J j i2 h56
      rw [show pv ns i2 = Value.pointer (some ⟨n2.b, 0, none⟩) by unfold pv; rw [bk_of HK2.out.2.1]] at e2
      rw [← e2]
      exact e
     have hc4 : Chg [w.heap.size + 2] V (X.setCell ⟨w.heap.size + 2, j, none⟩ (.pointer (some ⟨n2.b, 0, none⟩))) := hc3.setCell _ (.inl (by simp))
     have hj6 : (j : Int) < 6 := by omega
     have HF := Lib.hid (And.intro (show ∀ l, j ≤ l → l < 6 → Pred ns l q (if l = j then i2 else J l) from fun l h1 h2 => by
      by_cases hl : l = j
      ·subst hl
       rw [if_pos rfl]
       exact HP.out
      ·rw [if_neg hl]
       exact HK.out.2.2.2.2 l (by omega) h2) (And.intro hst hc4))
     clear hb3 hst hc3 hc4 h56 hsv HP
     go_wp2
     go_roundw
     case rel => exact ⟨j, i2, n2, _, by go_num, rfl, Lib.hid ⟨by have := HK.out.1; omega, HK2.out.2.1, by have := HK2.out.2.2.1; omega, HK2.out.2.2.2, HF.out.1⟩, Lib.hid (by exact HF.out.2.1), HF.out.2.2⟩
     case measure => simp [intOf] <;> omega
    | some b =>
     obtain ⟨n3, h3, rfl⟩ := nxb_some HK2.out.1
     obtain ⟨k3, g1, g2, g3, g4⟩ := nxt_some h3
     have hls := HLS.out k3 n3 (by omega) g2
     rw [← HQ.out] at hls
     have hless := fun W => iless_any n3.x x W
     rw [hls] at hless
     have hnd := hsr.core.node n3 (List.mem_of_getElem? g2)
     generalize hxn : n3.x = y at *
     have hkc : ∀ w', Below wr.heap.size wr w' → (w'.cell? ⟨n3.b, 0, none⟩ = some (.int .i64 y.s) ∧ w'.cell? ⟨n3.b, 1, none⟩ = some (.int .i64 y.k) ∧ w'.cell? ⟨n3.b, 2, none⟩ = some (.int .u64 (y.t : Int)) ∧ w'.cell? ⟨n3.b, 3, none⟩ = some (.int .u64 (y.v : Int)) ∧ w'.cell? ⟨n3.b, 4, none⟩ = some (.int .i64 y.x)) ∧ (w'.cell? ⟨w.heap.size, 0, none⟩ = some (.int .i64 x.s) ∧ w'.cell? ⟨w.heap.size, 1, none⟩ = some (.int .i64 x.k) ∧ w'.cell? ⟨w.heap.size, 2, none⟩ = some (.int .u64 (x.t : Int)) ∧ w'.cell? ⟨w.heap.size, 3, none⟩ = some (.int .u64 (x.v : Int)) ∧ w'.cell? ⟨w.heap.size, 4, none⟩ = some (.int .i64 x.x)) := fun w' hb => by
      have e1 := hnd.below hb
      have e2 := hbx.below hb
      exact ⟨⟨e1.cell 0, e1.cell 1, e1.cell 2, e1.cell 3, e1.cell 4⟩, e2.cell 0, e2.cell 1, e2.cell 2, e2.cell 3, e2.cell 4⟩
     unfold It.val at hless
     by_cases hkq : k3 < q
     ·have hd1 : decide (k3 < q) = true := decide_eq_true hkq
      rw [hd1] at hless
      have HLS2 := Lib.hid hless
      have KC := Lib.hid hkc
      have H3 := Lib.hid (And.intro g2 g3)
      have H4 := Lib.hid g1
      have HSR := Lib.hid hsr
      clear hless hkc hls hd1 hxn hnd hbx hsr g1 g2 g3 g4 h3
      go_wp2_with fail
      simp only [Option.map_some]
      refine wp_region_held_drew (S := fun w' => Below wr.heap.size wr w') rfl (below_drew (Below.refl _ _)) (fun hSw => ?_)
      refine wpT (i := 0) (v := ?vka0) ?hka0 hSw ?kka0
      case hka0 => (intro w hSw; (obtain ⟨⟨y0, y1, y2, y3, y4⟩, x0, x1, x2, x3, x4⟩ := KC.out w hSw); go_simp; try (with_reducible rfl))
      go_simp
      refine wpT (i := 1) (v := ?vka1) ?hka1 hSw ?kka1
      case hka1 => (intro w hSw; (obtain ⟨⟨y0, y1, y2, y3, y4⟩, x0, x1, x2, x3, x4⟩ := KC.out w hSw); go_simp; try (with_reducible rfl))
      go_simp
      refine wpT (i := 2) (v := ?vka2) ?hka2 hSw ?kka2
      case hka2 => (intro w hSw; (obtain ⟨⟨y0, y1, y2, y3, y4⟩, x0, x1, x2, x3, x4⟩ := KC.out w hSw); go_simp; try (with_reducible rfl))
      go_simp
      refine wpT (i := 3) (v := ?vka3) ?hka3 hSw ?kka3
      case hka3 => (intro w hSw; (obtain ⟨⟨y0, y1, y2, y3, y4⟩, x0, x1, x2, x3, x4⟩ := KC.out w hSw); go_simp; try (with_reducible rfl))
      go_simp
      refine wpT (i := 4) (v := ?vka4) ?hka4 hSw ?kka4
      case hka4 => (intro w hSw; (obtain ⟨⟨y0, y1, y2, y3, y4⟩, x0, x1, x2, x3, x4⟩ := KC.out w hSw); go_simp; try (with_reducible rfl))
      go_simp
      refine wpT (i := 5) (v := ?vka5) ?hka5 hSw ?kka5
      case hka5 => (intro w hSw; (obtain ⟨⟨y0, y1, y2, y3, y4⟩, x0, x1, x2, x3, x4⟩ := KC.out w hSw); go_simp; try (with_reducible rfl))
      go_simp
      refine wpT (i := 6) (v := ?vka6) ?hka6 hSw ?kka6
      case hka6 => (intro w hSw; (obtain ⟨⟨y0, y1, y2, y3, y4⟩, x0, x1, x2, x3, x4⟩ := KC.out w hSw); go_simp; try (with_reducible rfl))
      go_simp
      refine wpT (i := 7) (v := ?vka7) ?hka7 hSw ?kka7
      case hka7 => (intro w hSw; (obtain ⟨⟨y0, y1, y2, y3, y4⟩, x0, x1, x2, x3, x4⟩ := KC.out w hSw); go_simp; try (with_reducible rfl))
      go_simp
      refine wpAnyH_ready (rs := [8]) (by kernel_rfl) (by simp) ?_
      refine AllReadyH.cons rfl (fun K hK => ?_) AllReadyH.nil
      go_simp
      with_reducible refine (HLS2.out _).mono ?_
      rintro e w3 ⟨rfl, hb3⟩
      go_simp
      refine hK.out _ _ (hSw.trans (hb3.mono hSw.size)) (fun hSn => ?_)
      clear hK K hSw
      have hSw := hSn
      clear hSn
      go_simp
      refine wpT (i := 9) (v := ?vka9) ?hka9 hSw ?kka9
      case hka9 => (intro w hSw; (obtain ⟨⟨y0, y1, y2, y3, y4⟩, x0, x1, x2, x3, x4⟩ := KC.out w hSw); go_simp; try (with_reducible rfl))
      go_simp
      refine wpAnyH_done (by kernel_rfl) ?_ _
      have hsv := hSw
      clear hSw KC HLS2
      have hsr := HSR.out.below hsv
      generalize w3 = X at *
      have hc3 : Chg [w.heap.size + 2] V X := hc.trans (Chg.of_below hsv [w.heap.size + 2]) (fun g hg => .inl hg)
      have hb3 := HB.out.below hsv
      obtain ⟨n5, ⟨nl, nf⟩, nc, nc6⟩ := hsr.core.look H3.out.1 H3.out.2
      have hjc : (j : Int) < (n3.c : Int) := by omega
      have hld := apload_any n3.tb j _ X nl (hsr.core.ptr j (k3 + 1))
      have HLD := Lib.hid hld
      have HF := Lib.hid (And.intro hb3 hc3)
      clear hld hsr nl nf hb3 hc3 HSR
      go_wp2_with fail
      refine HLD.out.mono ?_
      rintro e w1 ⟨rfl, rfl⟩
      clear HLD
      have hm : rk ns (.pointer (some ⟨n3.b, 0, none⟩)) < rk ns (.pointer (some ⟨n2.b, 0, none⟩)) := by
       rw [HS3.out.core.rk H3.out.1, HS3.out.core.rk HK2.out.2.1]
       have h1 := (List.getElem?_eq_some_iff.1 H3.out.1).1
       have h2 := H4.out
       omega
      go_wp2
      go_roundw
      case rel => exact ⟨k3, n3, _, rfl, rfl, Lib.hid ⟨rfl, H3.out.1, H3.out.2, hkq⟩, Lib.hid HF.out.1, HF.out.2⟩
      case measure => exact hm
     ·have hd1 : decide (k3 < q) = false := decide_eq_false hkq
      rw [hd1] at hless
      have HLS2 := Lib.hid hless
      have KC := Lib.hid hkc
      have HP := Lib.hid (show Pred ns j q i2 from ⟨HK2.out.2.2.2, ⟨n2, HK2.out.2.1, HK2.out.2.2.1⟩, fun m n' h1 h2 h3 => g4 m n' h1 (by omega) h3⟩)
      clear hless hkc hls hd1 hxn hnd hbx hsr g1 g2 g3 g4 h3
      go_wp2_with fail
      simp only [Option.map_some]
      refine wp_region_held_drew (S := fun w' => Below wr.heap.size wr w') rfl (below_drew (Below.refl _ _)) (fun hSw => ?_)
      refine wpT (i := 0) (v := ?vkb0) ?hkb0 hSw ?kkb0
      case hkb0 => (intro w hSw; (obtain ⟨⟨y0, y1, y2, y3, y4⟩, x0, x1, x2, x3, x4⟩ := KC.out w hSw); go_simp; try (with_reducible rfl))
      go_simp
      refine wpT (i := 1) (v := ?vkb1) ?hkb1 hSw ?kkb1
      case hkb1 => (intro w hSw; (obtain ⟨⟨y0, y1, y2, y3, y4⟩, x0, x1, x2, x3, x4⟩ := KC.out w hSw); go_simp; try (with_reducible rfl))
      go_simp
      refine wpT (i := 2) (v := ?vkb2) ?hkb2 hSw ?kkb2
      case hkb2 => (intro w hSw; (obtain ⟨⟨y0, y1, y2, y3, y4⟩, x0, x1, x2, x3, x4⟩ := KC.out w hSw); go_simp; try (with_reducible rfl))
      go_simp
      refine wpT (i := 3) (v := ?vkb3) ?hkb3 hSw ?kkb3
      case hkb3 => (intro w hSw; (obtain ⟨⟨y0, y1, y2, y3, y4⟩, x0, x1, x2, x3, x4⟩ := KC.out w hSw); go_simp; try (with_reducible rfl))
      go_simp
      refine wpT (i := 4) (v := ?vkb4) ?hkb4 hSw ?kkb4
      case hkb4 => (intro w hSw; (obtain ⟨⟨y0, y1, y2, y3, y4⟩, x0, x1, x2, x3, x4⟩ := KC.out w hSw); go_simp; try (with_reducible rfl))
      go_simp
      refine wpT (i := 5) (v := ?vkb5) ?hkb5 hSw ?kkb5
      case hkb5 => (intro w hSw; (obtain ⟨⟨y0, y1, y2, y3, y4⟩, x0, x1, x2, x3, x4⟩ := KC.out w hSw); go_simp; try (with_reducible rfl))
      go_simp
      refine wpT (i := 6) (v := ?vkb6) ?hkb6 hSw ?kkb6
      case hkb6 => (intro w hSw; (obtain ⟨⟨y0, y1, y2, y3, y4⟩, x0, x1, x2, x3, x4⟩ := KC.out w hSw); go_simp; try (with_reducible rfl))
      go_simp
      refine wpT (i := 7) (v := ?vkb7) ?hkb7 hSw ?kkb7
      case hkb7 => (intro w hSw; (obtain ⟨⟨y0, y1, y2, y3, y4⟩, x0, x1, x2, x3, x4⟩ := KC.out w hSw); go_simp; try (with_reducible rfl))
      go_simp
      refine wpAnyH_ready (rs := [8]) (by kernel_rfl) (by simp) ?_
      refine AllReadyH.cons rfl (fun K hK => ?_) AllReadyH.nil
      go_simp
      with_reducible refine (HLS2.out _).mono ?_
      rintro e w3 ⟨rfl, hb3⟩
      go_simp
      refine hK.out _ _ (hSw.trans (hb3.mono hSw.size)) (fun hSn => ?_)
      clear hK K hSw
      have hSw := hSn
      clear hSn
      go_simp
      refine wpT (i := 9) (v := ?vkb9) ?hkb9 hSw ?kkb9
      case hkb9 => (intro w hSw; (obtain ⟨⟨y0, y1, y2, y3, y4⟩, x0, x1, x2, x3, x4⟩ := KC.out w hSw); go_simp; try (with_reducible rfl))
      go_simp
      refine wpAnyH_done (by kernel_rfl) ?_ _
      have hsv := hSw
      clear hSw KC HLS2
      generalize hXe : w3 = X at *
      clear hXe
      have hc3 : Chg [w.heap.size + 2] V X := hc.trans (Chg.of_below hsv [w.heap.size + 2]) (fun g hg => .inl hg)
      have hb3 := HB.out.below hsv
      have h56 : j < 6 := by have := HK.out.1; omega
      obtain ⟨u, hu⟩ := oc_at hb3 h56
      have hz := hb3.free j
      have hst : BoxO (X.setCell ⟨w.heap.size + 2, j, none⟩ (.pointer (some ⟨n2.b, 0, none⟩))) 230 (w.heap.size + 2) (oc ns (fun l => if l = j then i2 else J l) j) := by
       have e := hb3.store j (.pointer (some ⟨n2.b, 0, none⟩))
       have e2 := oc_set ns J j i2 h56
       rw [show pv ns i2 = Value.pointer (some ⟨n2.b, 0, none⟩) by unfold pv; rw [bk_of HK2.out.2.1]] at e2
       rw [← e2]
       exact e
      have hc4 : Chg [w.heap.size + 2] V (X.setCell ⟨w.heap.size + 2, j, none⟩ (.pointer (some ⟨n2.b, 0, none⟩))) := hc3.setCell _ (.inl (by simp))
      have hj6 : (j : Int) < 6 := by omega
      have HF := Lib.hid (And.intro (show ∀ l, j ≤ l → l < 6 → Pred ns l q (if l = j then i2 else J l) from fun l h1 h2 => by
       by_cases hl : l = j
       ·subst hl
        rw [if_pos rfl]
        exact HP.out
       ·rw [if_neg hl]
        exact HK.out.2.2.2.2 l (by omega) h2) (And.intro hst hc4))
      clear hb3 hst hc3 hc4 h56 hsv HP
      go_wp2
      go_roundw
      case rel => exact ⟨j, i2, n2, _, by go_num, rfl, Lib.hid ⟨by have := HK.out.1; omega, HK2.out.2.1, by have := HK2.out.2.2.1; omega, HK2.out.2.2.2, HF.out.1⟩, Lib.hid (by exact HF.out.2.1), HF.out.2.2⟩
      case measure => simp [intOf] <;> omega
end
section
open Go Go.RowKit Go.Lib
theorem nd_apart : ∀ (ns : List Nd) (i j : Nat) (n m : Nd), (ns.flatMap fun n => [n.b, n.tb]).Nodup → ns[i]? = some n → ns[j]? = some m → (n.b = m.b → i = j) ∧ (n.tb = m.tb → i = j) ∧ n.b ≠ m.tb := by
 intro ns
 induction ns with
 | nil => intro i j n m _ hi; simp at hi
 | cons a r ih =>
  intro i j n m hd hi hj
  simp only [List.flatMap_cons, List.cons_append, List.nil_append, List.nodup_cons, List.mem_cons, not_or] at hd
  obtain ⟨⟨h1, h2⟩, h3, h4⟩ := hd
  have hin : ∀ (k : Nat) (u : Nd), r[k]? = some u → u.b ≠ a.b ∧ u.tb ≠ a.b ∧ u.b ≠ a.tb ∧ u.tb ≠ a.tb := fun k u hu =>
   ⟨fun e => h2 (List.mem_flatMap.2 ⟨u, List.mem_of_getElem? hu, by simp [e]⟩), fun e => h2 (List.mem_flatMap.2 ⟨u, List.mem_of_getElem? hu, by simp [e]⟩), fun e => h3 (List.mem_flatMap.2 ⟨u, List.mem_of_getElem? hu, by simp [e]⟩), fun e => h3 (List.mem_flatMap.2 ⟨u, List.mem_of_getElem? hu, by simp [e]⟩)⟩
  cases i with
  | zero =>
   cases j with
   | zero =>
    simp only [gE0, Option.some.injEq] at hi hj
    subst hi hj
    exact ⟨fun _ => rfl, fun _ => rfl, h1⟩
   | succ j =>
    simp only [gE0, Option.some.injEq, gE1] at hi hj
    subst hi
    obtain ⟨a1, a2, a3, a4⟩ := hin j m hj
    exact ⟨fun e => absurd e.symm a1, fun e => absurd e.symm a4, fun e => a2 e.symm⟩
  | succ i =>
   cases j with
   | zero =>
    simp only [gE0, Option.some.injEq, gE1] at hi hj
    subst hj
    obtain ⟨a1, a2, a3, a4⟩ := hin i n hi
    exact ⟨fun e => absurd e a1, fun e => absurd e a4, a3⟩
   | succ j =>
    simp only [gE1] at hi hj
    obtain ⟨b1, b2, b3⟩ := ih i j n m h4 hi hj
    exact ⟨fun e => by rw [b1 e], fun e => by rw [b2 e], b3⟩
variable {w w' : World} {L l j : Nat} {ns A R : List Nd} {n p : Nd}
theorem SkC.raise (h : SkC w (A ++ n :: R)) (hn : n.h = l) (hl : l < n.c) (hj : Pred (A ++ n :: R) l A.length j) (hp : (A ++ n :: R)[j]? = some p) :
  SkC ((w.setCell ⟨n.tb, l, none⟩ (.pointer ((nxb l ((A ++ n :: R).drop (j + 1))).map fun b => ⟨b, 0, none⟩))).setCell ⟨p.tb, l, none⟩ (.pointer (some ⟨n.b, 0, none⟩))) (A ++ { n with h := l + 1 } :: R) := by
 have hjl := hj.lt
 have hnA : (A ++ n :: R)[A.length]? = some n := by simp
 obtain ⟨p', hp', hpl⟩ := hj.on
 obtain rfl : p' = p := by rw [hp] at hp'; exact (Option.some.inj hp').symm
 have hap := fun (i k : Nat) (a b : Nd) => nd_apart (A ++ n :: R) i k a b h.apart
 have hpn : p'.tb ≠ n.tb := fun e => by have := (hap j A.length p' n hp hnA).2.1 e; omega
 have hc : Chg [n.tb, p'.tb] w ((w.setCell ⟨n.tb, l, none⟩ (.pointer ((nxb l ((A ++ n :: R).drop (j + 1))).map fun b => ⟨b, 0, none⟩))).setCell ⟨p'.tb, l, none⟩ (.pointer (some ⟨n.b, 0, none⟩))) := ((Chg.refl _ w).setCell _ (.inl (by simp))).setCell _ (.inl (by simp))
 have hmem : ∀ (i : Nat) (m : Nd), i ≠ A.length → ((A ++ { n with h := l + 1 } :: R)[i]? = some m ↔ (A ++ n :: R)[i]? = some m) := fun i m hi => by
  rcases Nat.lt_or_ge i A.length with h1 | h1
  ·rw [List.getElem?_append_left h1, List.getElem?_append_left h1]
  ·rw [List.getElem?_append_right h1, List.getElem?_append_right h1]
   obtain ⟨d, hd⟩ : ∃ d, i - A.length = d + 1 := ⟨i - A.length - 1, by omega⟩
   rw [hd, gE1, gE1]
 have hmA : (A ++ { n with h := l + 1 } :: R)[A.length]? = some { n with h := l + 1 } := by simp
 have hr := fun (i l' : Nat) (m : Nd) (hm : (A ++ { n with h := l + 1 } :: R)[i]? = some m) (hl' : l' < m.h) => Go.Proofs.YtdkjoigpahafmaaGreatDoor.raise (n' := { n with h := l + 1 }) hj hn rfl rfl i l' m hm hl'
 refine ⟨fun m hm => ?_, fun i m hi => ?_, fun m hm => ?_, ?_⟩
 ·obtain ⟨i, hi⟩ := List.mem_iff_getElem?.1 hm
  by_cases hiA : i = A.length
  ·subst hiA
   rw [hmA] at hi
   obtain rfl := Option.some.inj hi
   refine (h.node n (List.mem_of_getElem? hnA)).chg hc ?_
   simp only [List.mem_cons, List.not_mem_nil, or_false, not_or]
   exact ⟨(hap _ _ _ _ hnA hnA).2.2, (hap _ _ _ _ hnA hp).2.2⟩
  ·rw [hmem i m hiA] at hi
   refine (h.node m (List.mem_of_getElem? hi)).chg hc ?_
   simp only [List.mem_cons, List.not_mem_nil, or_false, not_or]
   exact ⟨(hap _ _ _ _ hi hnA).2.2, (hap _ _ _ _ hi hp).2.2⟩
 ·by_cases hiA : i = A.length
  ·subst hiA
   rw [hmA] at hi
   obtain rfl := Option.some.inj hi
   obtain ⟨cs, h1, h2, h3⟩ := h.tower A.length n hnA
   refine ⟨_, (h1.store l _).chg (chg_set _ ⟨p'.tb, l, none⟩ _) (by simpa using fun e => hpn e.symm), by rw [List.length_set]; exact h2, fun l' hl' => ?_⟩
   rw [hr A.length l' _ hmA hl', if_neg (by omega)]
   by_cases hll : l' = l
   ·subst hll
    rw [if_pos ⟨rfl, rfl⟩, List.getElem?_set_self (by omega)]
   ·rw [if_neg (by omega), List.getElem?_set_ne (by omega)]
    simp only at hl'
    exact h3 l' (by omega)
  ·have hi2 := (hmem i m hiA).1 hi
   obtain ⟨cs, h1, h2, h3⟩ := h.tower i m hi2
   by_cases hij : i = j
   ·subst hij
    rw [hp] at hi2
    obtain rfl := Option.some.inj hi2
    refine ⟨_, (h1.chg (chg_set w ⟨n.tb, l, none⟩ _) (by simpa using hpn)).store l _, by rw [List.length_set]; exact h2, fun l' hl' => ?_⟩
    rw [hr i l' _ hi hl']
    have := (h.cap p' (List.mem_of_getElem? hp)).1
    by_cases hll : l' = l
    ·subst hll
     rw [if_pos ⟨rfl, rfl⟩, List.getElem?_set_self (by omega)]
     rfl
    ·rw [if_neg (by omega), if_neg (by omega), List.getElem?_set_ne (by omega)]
     exact h3 l' hl'
   ·refine ⟨cs, h1.chg hc ?_, h2, fun l' hl' => ?_⟩
    ·simp only [List.mem_cons, List.not_mem_nil, or_false, not_or]
     exact ⟨fun e => hiA ((hap _ _ _ _ hi2 hnA).2.1 e), fun e => hij ((hap _ _ _ _ hi2 hp).2.1 e)⟩
    ·rw [hr i l' _ hi hl', if_neg (by omega), if_neg (by omega)]
     exact h3 l' hl'
 ·obtain ⟨i, hi⟩ := List.mem_iff_getElem?.1 hm
  by_cases hiA : i = A.length
  ·subst hiA
   rw [hmA] at hi
   obtain rfl := Option.some.inj hi
   exact ⟨hl, (h.cap n (List.mem_of_getElem? hnA)).2⟩
  ·exact h.cap m (List.mem_of_getElem? ((hmem i m hiA).1 hi))
 ·have := h.apart
  simpa using this
theorem SkC.insert (h : SkC w (A ++ R)) (hn : n.h = 0) (hc : n.c ≤ 6) (hb : BoxO w 238 n.b (n.x.cells ++ [.slice (some ⟨n.tb, 0, none⟩) n.c n.c])) (ht : BoxO w 235 n.tb (List.replicate n.c (.pointer none))) (hne : n.b ≠ n.tb)
  (h1 : n.b ∉ (A ++ R).flatMap fun n => [n.b, n.tb]) (h2 : n.tb ∉ (A ++ R).flatMap fun n => [n.b, n.tb]) : SkC w (A ++ n :: R) := by
 have hin : ∀ m, m ∈ A ++ n :: R ↔ m = n ∨ m ∈ A ++ R := fun m => by simp [or_left_comm]
 refine ⟨fun m hm => ?_, fun i m hi => ?_, fun m hm => ?_, ?_⟩
 ·rcases (hin m).1 hm with rfl | h3
  ·exact hb
  ·exact h.node m h3
 ·have key : ∀ l, nxb l ((A ++ n :: R).drop (i + 1)) = nxb l ((A ++ R).drop (if i < A.length then i + 1 else i)) := fun l => by
   rcases Nat.lt_or_ge i A.length with h3 | h3
   ·rw [if_pos h3, List.drop_append_of_le_length (by omega), List.drop_append_of_le_length (by omega)]
    exact nxb_add hn
   ·have e1 : A.drop (i + 1) = [] := List.drop_eq_nil_of_le (by omega)
    have e2 : A.drop i = [] := List.drop_eq_nil_of_le (by omega)
    rw [if_neg (by omega), List.drop_append, List.drop_append, e1, e2, List.nil_append, List.nil_append, show i + 1 - A.length = (i - A.length) + 1 by omega, List.drop_succ_cons]
  rcases Nat.lt_trichotomy i A.length with h3 | h3 | h3
  ·rw [List.getElem?_append_left h3] at hi
   obtain ⟨cs, a, b, c⟩ := h.tower i m (by rw [List.getElem?_append_left h3]; exact hi)
   exact ⟨cs, a, b, fun l hl => by rw [key, if_pos h3]; exact c l hl⟩
  ·subst h3
   rw [List.getElem?_append_right (Nat.le_refl _), Nat.sub_self, gE0] at hi
   obtain rfl := Option.some.inj hi
   exact ⟨_, ht, by simp, fun l hl => by omega⟩
  ·obtain ⟨k, rfl⟩ : ∃ k, i = A.length + k + 1 := ⟨i - A.length - 1, by omega⟩
   rw [List.getElem?_append_right (by omega), show A.length + k + 1 - A.length = k + 1 by omega, gE1] at hi
   obtain ⟨cs, a, b, c⟩ := h.tower (A.length + k) m (by rw [List.getElem?_append_right (by omega), show A.length + k - A.length = k by omega]; exact hi)
   exact ⟨cs, a, b, fun l hl => by rw [key, if_neg (by omega)]; exact c l hl⟩
 ·rcases (hin m).1 hm with rfl | h3
  ·exact ⟨by omega, hc⟩
  ·exact h.cap m h3
 ·have h3 := h.apart
  rw [List.flatMap_append] at h3 h1 h2 ⊢
  rw [List.flatMap_cons]
  refine (List.perm_append_comm_assoc _ _ _).nodup_iff.2 ?_
  simp only [List.cons_append, List.nil_append, List.nodup_cons, List.mem_cons, not_or]
  exact ⟨⟨hne, h1⟩, h2, h3⟩
theorem SkAt.setx {k : Nat} {x : It} (h : SkAt w L ns) (hk : ns[k + 1]? = some n) (hR : Rises ((its ns).set k x)) (c : Chg [n.b] w w') (hb : BoxO w' 238 n.b (x.cells ++ [.slice (some ⟨n.tb, 0, none⟩) n.c n.c])) :
  SkAt w' L (ns.set (k + 1) { n with x := x }) ∧ its (ns.set (k + 1) { n with x := x }) = (its ns).set k x ∧ skF L (ns.set (k + 1) { n with x := x }) = skF L ns := by
 have hkl : k + 1 < ns.length := (List.getElem?_eq_some_iff.1 hk).1
 have hkg : ns[k + 1] = n := (List.getElem?_eq_some_iff.1 hk).2
 have hfl : ∀ ns : List Nd, ∀ (k : Nat) (n : Nd), ns[k]? = some n → (ns.set k { n with x := x }).flatMap (fun n => [n.b, n.tb]) = ns.flatMap fun n => [n.b, n.tb] := by
  intro ns
  induction ns with
  | nil => intro k n h; simp at h
  | cons a r ih =>
   intro k n h
   cases k with
   | zero =>
    simp only [gE0, Option.some.injEq] at h
    subst h
    simp
   | succ k =>
    rw [gE1] at h
    simp [ih k n h]
 have hnx : ∀ ns : List Nd, ∀ (k l i : Nat) (n : Nd), ns[k]? = some n → nxb l ((ns.set k { n with x := x }).drop i) = nxb l (ns.drop i) := by
  intro ns k l i n h
  have hl : k < ns.length := (List.getElem?_eq_some_iff.1 h).1
  have hg : ns[k] = n := (List.getElem?_eq_some_iff.1 h).2
  rcases Nat.lt_or_ge k i with h1 | h1
  ·rw [List.drop_set_of_lt h1]
  ·rw [List.drop_set, if_neg (by omega), List.set_eq_take_append_cons_drop, if_pos (by rw [List.length_drop]; omega)]
   have e : ns.drop i = (ns.drop i).take (k - i) ++ n :: (ns.drop i).drop (k - i + 1) := by
    have h2 : k - i < (ns.drop i).length := by rw [List.length_drop]; omega
    have h3 : (ns.drop i)[k - i] = n := by rw [List.getElem_drop, ← hg]; congr 1; omega
    rw [← h3, List.getElem_cons_drop, List.take_append_drop]
   conv => rhs; rw [e]
   exact nxb_same rfl Iff.rfl
 have hap := fun (i : Nat) (a : Nd) (hi : ns[i]? = some a) => nd_apart ns i (k + 1) a n h.core.apart hi hk
 have hits : its (ns.set (k + 1) { n with x := x }) = (its ns).set k x := by
  unfold its
  rw [List.drop_set, if_neg (by omega), Nat.add_sub_cancel, List.map_set]
 have hget : ∀ (i : Nat) (m : Nd), (ns.set (k + 1) { n with x := x })[i]? = some m → (i = k + 1 ∧ m = { n with x := x }) ∨ (i ≠ k + 1 ∧ ns[i]? = some m) := fun i m hi => by
  by_cases hik : i = k + 1
  ·subst hik
   rw [List.getElem?_set_self (by omega)] at hi
   exact .inl ⟨rfl, (Option.some.inj hi).symm⟩
  ·rw [List.getElem?_set_ne (by omega)] at hi
   exact .inr ⟨hik, hi⟩
 have hnt : n.tb ∉ [n.b] := by
  have := (hap (k + 1) n hk).2.2
  simpa using this.symm
 obtain ⟨hd, tl, hns, h6, hL⟩ := h.head
 have hLb : L ∉ [n.b] := fun e => h.out (List.mem_flatMap.2 ⟨n, List.mem_of_getElem? hk, by rw [List.mem_singleton.1 e]; simp⟩)
 refine ⟨⟨⟨fun m hm => ?_, fun i m hi => ?_, fun m hm => ?_, ?_⟩, ⟨hd, tl.set k { n with x := x }, by rw [hns, List.set_cons_succ], h6, by rw [List.length_set]; exact hL.chg c hLb⟩, ?_, fun m hm => ?_, ?_⟩, hits, ?_⟩
 ·obtain ⟨i, hi⟩ := List.mem_iff_getElem?.1 hm
  rcases hget i m hi with ⟨rfl, rfl⟩ | ⟨h1, h2⟩
  ·exact hb
  ·exact (h.core.node m (List.mem_of_getElem? h2)).chg c (by simpa using fun e => h1 ((hap i m h2).1 e))
 ·rcases hget i m hi with ⟨rfl, rfl⟩ | ⟨h1, h2⟩
  ·obtain ⟨cs, a1, a2, a3⟩ := h.core.tower _ n hk
   exact ⟨cs, a1.chg c hnt, a2, fun l hl => by rw [hnx ns (k + 1) l _ n hk]; exact a3 l hl⟩
  ·obtain ⟨cs, a1, a2, a3⟩ := h.core.tower i m h2
   exact ⟨cs, a1.chg c (by simpa using fun e => (nd_apart ns (k + 1) i n m h.core.apart hk h2).2.2 e.symm), a2, fun l hl => by rw [hnx ns (k + 1) l _ n hk]; exact a3 l hl⟩
 ·obtain ⟨i, hi⟩ := List.mem_iff_getElem?.1 hm
  rcases hget i m hi with ⟨rfl, rfl⟩ | ⟨h1, h2⟩
  ·exact h.core.cap n (List.mem_of_getElem? hk)
  ·exact h.core.cap m (List.mem_of_getElem? h2)
 ·rw [hfl ns (k + 1) n hk]
  exact h.core.apart
 ·rw [hfl ns (k + 1) n hk]
  exact h.out
 ·obtain ⟨i, hi⟩ := List.mem_iff_getElem?.1 hm
  rcases hget i m hi with ⟨rfl, rfl⟩ | ⟨h1, h2⟩
  ·exact h.tall n (List.mem_of_getElem? hk)
  ·exact h.tall m (List.mem_of_getElem? h2)
 ·rw [hits]
  exact hR
 ·unfold skF
  rw [hfl ns (k + 1) n hk]
end
section
namespace Pn
theorem unlistF_put (ns : List Nat) (a r : List UInt8) (out : List Nat) (hns : ∀ n ∈ ns, n < 2 ^ 64) : unlistF ns.length a.length (a ++ (ns.flatMap put ++ r)) out = (out ++ ns, a.length + (ns.flatMap put).length, 0) := by
 induction ns generalizing a out with
 | nil => simp [unlistF]
 | cons n ns ih =>
  have e : a ++ ((n :: ns).flatMap put ++ r) = a ++ (put n ++ (ns.flatMap put ++ r)) := by simp
  rw [e, List.length_cons, unlistF, List.drop_left, take_put n _ (hns n (by simp))]
  simp only
  have e2 : a ++ (put n ++ (ns.flatMap put ++ r)) = (a ++ put n) ++ (ns.flatMap put ++ r) := by simp
  rw [e2, show a.length + (put n).length = (a ++ put n).length by simp, ih (a ++ put n) (out ++ [n]) (fun x hx => hns x (by simp [hx]))]
  simp [Nat.add_assoc]
theorem unlist_list (ns : List Nat) (r : List UInt8) (most : Nat) (hl : ns.length ≤ most) (hm : most < 2 ^ 64) (hns : ∀ n ∈ ns, n < 2 ^ 64) : unlist (list ns ++ r) most = (ns, (list ns).length, 0) := by
 have e : list ns ++ r = put ns.length ++ (ns.flatMap put ++ r) := by simp [list]
 unfold unlist
 rw [e, take_put _ _ (by omega)]
 simp only
 rw [if_neg (by omega), unlistF_put ns (put ns.length) r [] hns]
 simp [list]
end Pn
abbrev Rd := List UInt8 × Bool
namespace Rd
def take (most : Nat) (r : Rd) : Nat × Rd :=
 if r.2 = true ∧ (Pn.take r.1).2.2 = 0 ∧ (Pn.take r.1).1 ≤ most then ((Pn.take r.1).1, (r.1.drop (Pn.take r.1).2.1, true)) else (0, (r.1, false))
def files (r : Rd) : Nat → List (Int × Int) × Rd
 | 0 => ([], r)
 | k + 1 => ((files r k).1 ++ [(((take 3 (files r k).2).1 : Int), ((take 1073741824 (take 3 (files r k).2).2).1 : Int))], (take 1073741824 (take 3 (files r k).2).2).2)
theorem take_put {n most : Nat} (r : List UInt8) (h : n ≤ most) (hm : most < 2 ^ 64) : take most (Pn.put n ++ r, true) = (n, (r, true)) := by
 unfold take
 simp only [Pn.take_put n r (by omega)]
 rw [if_pos (by simpa using h), List.drop_left]
theorem files_put (fs : List (Int × Int)) (r : List UInt8) (h : fs.all isFile = true) : ∀ k, k ≤ fs.length → files ((fs.flatMap fun f => Pn.put f.1.toNat ++ Pn.put f.2.toNat) ++ r, true) k = (fs.take k, ((fs.drop k).flatMap (fun f => Pn.put f.1.toNat ++ Pn.put f.2.toNat) ++ r, true))
 | 0, _ => by simp [files]
 | k + 1, hk => by
  have hf : isFile fs[k] = true := List.all_eq_true.1 h _ (List.getElem_mem (by omega))
  rw [List.take_succ_eq_append_getElem (by omega)]
  have hd : fs.drop k = fs[k] :: fs.drop (k + 1) := List.drop_eq_getElem_cons (by omega)
  generalize fs[k] = f at *
  simp only [isFile, isNum, Bool.and_eq_true, decide_eq_true_eq] at hf
  rw [files, files_put fs r h k (by omega), hd, List.flatMap_cons, List.append_assoc, List.append_assoc]
  simp only
  rw [take_put _ (by omega) (by omega)]
  simp only
  rw [take_put _ (by omega) (by omega)]
  simp only
  rw [show ((f.1.toNat : Nat) : Int) = f.1 by omega, show ((f.2.toNat : Nat) : Int) = f.2 by omega]
end Rd
def Ed.zero : Ed := ⟨[], [], 0, 0, 0, 0, 0⟩
def Rd.tail (drop : List Int) (fs : List (Int × Int)) (r0 : Rd) : Ed × Rd :=
 (⟨drop, fs, ((Rd.take 1073741824 r0).1 : Int), (Rd.take 281474976710656 (Rd.take 1073741824 r0).2).1, (Rd.take 281474976710656 (Rd.take 281474976710656 (Rd.take 1073741824 r0).2).2).1,
  (Rd.take 281474976710656 (Rd.take 281474976710656 (Rd.take 281474976710656 (Rd.take 1073741824 r0).2).2).2).1,
  (Rd.take 281474976710656 (Rd.take 281474976710656 (Rd.take 281474976710656 (Rd.take 281474976710656 (Rd.take 1073741824 r0).2).2).2).2).1⟩,
  (Rd.take 281474976710656 (Rd.take 281474976710656 (Rd.take 281474976710656 (Rd.take 281474976710656 (Rd.take 1073741824 r0).2).2).2).2).2)
def Ed.scan (b : List UInt8) : Ed × Rd :=
 Rd.tail ((Pn.unlist b 40).1.map fun n => ((min n 1073741825 : Nat) : Int))
  (Rd.files (Rd.take 40 (b.drop (Pn.unlist b 40).2.1, true)).2 (Rd.take 40 (b.drop (Pn.unlist b 40).2.1, true)).1).1
  (Rd.files (Rd.take 40 (b.drop (Pn.unlist b 40).2.1, true)).2 (Rd.take 40 (b.drop (Pn.unlist b 40).2.1, true)).1).2
def Ed.good (p : Ed × Rd) : Bool := p.2.2 && p.2.1.isEmpty && p.1.may
def Ed.read (b : List UInt8) : Ed × Nat :=
 if (Pn.unlist b 40).2.2 ≠ 0 then (Ed.zero, 3) else if Ed.good (Ed.scan b) = true then ((Ed.scan b).1, 0) else (Ed.zero, 3)
theorem Ed.read_bytes (e : Ed) (h : e.may = true) : Ed.read e.bytes = (e, 0) := by
 obtain ⟨drop, add, log, f, c, a, l⟩ := e
 have hm := h
 simp only [Ed.may, four4, Bool.and_eq_true, decide_eq_true_eq] at hm
 obtain ⟨⟨⟨⟨⟨h1, h2⟩, h3⟩, h4⟩, h5⟩, h6⟩ := hm
 have hd : ∀ n ∈ drop, 1 ≤ n ∧ n ≤ 1073741824 := fun n hn => by
  have := List.all_eq_true.1 h5 n hn
  simpa [isNum] using this
 obtain ⟨r, hr⟩ : ∃ r, r = Pn.put add.length ++ (add.flatMap (fun f => Pn.put f.1.toNat ++ Pn.put f.2.toNat) ++ (Pn.put log.toNat ++ (Pn.put f ++ (Pn.put c ++ (Pn.put a ++ Pn.put l))))) := ⟨_, rfl⟩
 have hb : Ed.bytes ⟨drop, add, log, f, c, a, l⟩ = Pn.list (drop.map Int.toNat) ++ r := by rw [hr]; rfl
 have hu := Pn.unlist_list (drop.map Int.toNat) r 40 (by simpa using h1) (by omega) (fun n hn => by
  obtain ⟨x, hx, rfl⟩ := List.mem_map.1 hn
  have := hd x hx
  omega)
 have hdr : (drop.map Int.toNat).map (fun n => ((min n 1073741825 : Nat) : Int)) = drop := by
  rw [List.map_map]
  refine (List.map_congr_left fun x hx => ?_).trans (List.map_id _)
  have := hd x hx
  simp
  omega
 have h0 : Rd.take 40 (r, true) = (add.length, (add.flatMap (fun f => Pn.put f.1.toNat ++ Pn.put f.2.toNat) ++ (Pn.put log.toNat ++ (Pn.put f ++ (Pn.put c ++ (Pn.put a ++ Pn.put l)))), true)) := by
  rw [hr, Rd.take_put _ h2 (by omega)]
 have hf := Rd.files_put add (Pn.put log.toNat ++ (Pn.put f ++ (Pn.put c ++ (Pn.put a ++ Pn.put l)))) h6 add.length (Nat.le_refl _)
 rw [List.take_length, List.drop_length, List.flatMap_nil, List.nil_append] at hf
 have hs : Ed.scan (Ed.bytes ⟨drop, add, log, f, c, a, l⟩) = (⟨drop, add, log, f, c, a, l⟩, ([], true)) := by
  unfold Ed.scan
  rw [hb, hu]
  simp only
  rw [List.drop_left, h0]
  simp only
  rw [hf, hdr]
  unfold Rd.tail
  simp only
  rw [Rd.take_put _ (by omega) (by omega)]
  simp only
  rw [Rd.take_put _ (by omega) (by omega)]
  simp only
  rw [Rd.take_put _ (by omega) (by omega)]
  simp only
  rw [Rd.take_put _ (by omega) (by omega)]
  simp only
  rw [show Pn.put l = Pn.put l ++ [] by simp, Rd.take_put _ (by omega) (by omega)]
  simp only
  rw [show ((log.toNat : Nat) : Int) = log by omega]
 unfold Ed.read
 rw [hs, hb, hu]
 simp only [ne_eq, not_true_eq_false, if_false]
 rw [if_pos (by simp [Ed.good, h])]
def Vw.step (o : Option Vw) (p : Nat × List UInt8) : Option Vw := match o with
 | none => none
 | some v => if (Ed.read p.2).2 = 0 ∧ p.1 = 6 then v.app (Ed.read p.2).1 else none
def Vw.steps (l : List (Nat × List UInt8)) : Option Vw := l.foldl Vw.step (some Vw.none_)
theorem Vw.app_ok {v v' : Vw} {e : Ed} (h : v.app e = some v') : v'.ok = true := by
 unfold Vw.app at h
 cases hd : dropAll e.drop v.files with
 | none => rw [hd] at h; cases h
 | some fs =>
  rw [hd] at h
  simp only at h
  generalize ({ log := if e.log = 0 then v.log else e.log, files := fs ++ e.add, floor := orElse e.floor v.floor, cert := orElse e.cert v.cert, at_ := orElse e.at_ v.at_, lease := orElse e.lease v.lease } : Vw) = x at h
  by_cases hx : x.ok = true
  ·rw [if_pos hx] at h
   injection h with h
   rwa [← h]
  ·rw [if_neg hx] at h
   cases h
def Ed.text (es : List Ed) : List UInt8 := Fr.all 6 (es.map Ed.bytes)
end
section
open Go Go.RowKit
def fcells (fs : List (Int × Int)) : List Value := fs.flatMap fun f => [.int .i64 f.1, .int .i64 f.2]
theorem fcells_len (fs : List (Int × Int)) : (fcells fs).length = fs.length * 2 := by
 induction fs with
 | nil => rfl
 | cons f t ih => simp only [fcells, List.flatMap_cons, List.length_append, List.length_cons] at ih ⊢; simp only [List.length_nil] at *; omega
theorem fcells_app (a b : List (Int × Int)) : fcells (a ++ b) = fcells a ++ fcells b := by simp [fcells]
theorem fcells_one (fs : List (Int × Int)) : ∀ u ∈ fcells fs, u.oneCell' = true := by
 intro u hu
 obtain ⟨f, _, h⟩ := List.mem_flatMap.1 hu
 simp at h
 rcases h with rfl | rfl <;> rfl
theorem fcells_get : ∀ (fs : List (Int × Int)) (k : Nat) (hk : k < fs.length), (fcells fs)[k * 2]? = some (.int .i64 (fs[k]).1) ∧ (fcells fs)[k * 2 + 1]? = some (.int .i64 (fs[k]).2)
 | f :: t, 0, _ => by simp [fcells]
 | f :: t, k + 1, hk => by
  have ih := fcells_get t k (by simpa using hk)
  have e : fcells (f :: t) = .int .i64 f.1 :: .int .i64 f.2 :: fcells t := by simp [fcells]
  rw [e, show (k + 1) * 2 = k * 2 + 1 + 1 by omega, show k * 2 + 1 + 1 + 1 = (k * 2 + 1) + 1 + 1 by omega]
  simpa using ih
theorem fcells_take : ∀ (fs : List (Int × Int)) (k : Nat), fcells (fs.take k) = (fcells fs).take (k * 2)
 | fs, 0 => by simp [fcells]
 | [], k + 1 => by simp [fcells]
 | f :: t, k + 1 => by
  have ih := fcells_take t k
  have e : ∀ t, fcells (f :: t) = .int .i64 f.1 :: .int .i64 f.2 :: fcells t := fun t => by simp [fcells]
  rw [List.take_succ_cons, e, e, ih, show (k + 1) * 2 = k * 2 + 1 + 1 by omega]
  simp
theorem fcells_drop (fs : List (Int × Int)) (k : Nat) : fcells (fs.drop k) = (fcells fs).drop (k * 2) := by
 have h1 := fcells_app (fs.take k) (fs.drop k)
 rw [List.take_append_drop, fcells_take] at h1
 have h2 := List.take_append_drop (k * 2) (fcells fs)
 rw [h1] at h2
 rw [← h1] at h2
 exact (List.append_cancel_left (h2.trans h1)).symm
structure FAt (B : Nat) (w : World) (a : Addr) (k : Nat) (f : Int × Int) : Prop where
 blk : a.block < B
 c0 : w.cell? (a.add (k * 2)) = some (.int .i64 f.1)
 c1 : w.cell? ⟨(a.add (k * 2)).block, (a.add (k * 2)).off + 1, none⟩ = some (.int .i64 f.2)
theorem fadd_at (a : Addr) (k : Nat) {j : Nat} (hj : 0 < j) : a.add (k + j) = ⟨(a.add k).block, (a.add k).off + j, none⟩ := by
 rw [← add_twice, Addr.add, if_neg (by omega)]
variable {B n : Nat} {w w' : World} {A : Option Addr} {fs : List (Int × Int)}
theorem Row.flen (h : Row B w A n 2 (fcells fs)) : fs.length = n := by
 have := h.len
 rw [fcells_len] at this
 omega
theorem Row.file (h : Row B w A n 2 (fcells fs)) {k : Nat} (hk : k < n) : ∃ a, ∃ hl : k < fs.length, A = some a ∧ FAt B w a k fs[k] := by
 have hl : k < fs.length := by have := h.flen; omega
 have hlen := fcells_len fs
 obtain ⟨g0, g1⟩ := fcells_get fs k hl
 obtain ⟨a, e, hb, c0⟩ := h.cell (k * 2) (by omega)
 obtain ⟨a', e', _, c1⟩ := h.cell (k * 2 + 1) (by omega)
 rw [e] at e'
 injection e' with e'
 subst e'
 rw [List.getElem?_eq_getElem (by omega)] at g0 g1
 injection g0 with g0
 injection g1 with g1
 rw [g0] at c0
 rw [g1, fadd_at a (k * 2) (by omega)] at c1
 exact ⟨a, hl, e, hb, c0, c1⟩
def icells (ns : List Int) : List Value := ns.map fun n => .int .i64 n
theorem icells_get (ns : List Int) (k : Nat) : (icells ns)[k]? = (ns[k]?).map fun n => .int .i64 n := by simp [icells]
theorem Row.ilen {ns : List Int} (h : Row B w A n 1 (icells ns)) : ns.length = n := by
 have := h.len
 simp [icells] at this
 omega
theorem Row.int_ {ns : List Int} (h : Row B w A n 1 (icells ns)) {k : Nat} (hk : k < n) : ∃ a, ∃ hl : k < ns.length, A = some a ∧ a.block < B ∧ w.cell? (a.add k) = some (.int .i64 ns[k]) := by
 obtain ⟨a, v, e, hb, hv, hc⟩ := h.at1 hk
 have hl : k < ns.length := by have := h.ilen; omega
 rw [icells_get, List.getElem?_eq_getElem hl] at hv
 injection hv with hv
 subst hv
 exact ⟨a, hl, e, hb, hc⟩
theorem isnum_gen (n : Int) (w : World) : Calls Tryz.prog 229 #[.int .i64 n] w fun e w' => e = .returned (.bool (isNum n)) ∧ w = w' := by
 obtain ⟨b, hb⟩ : ∃ b, b = isNum n := ⟨_, rfl⟩
 rw [← hb]
 unfold isNum at hb
 have HB := Lib.hid hb
 clear hb
 go_enter Tryz.func229, Tryz.ntmps229
 by_cases h1 : 1 ≤ n
 ·by_cases h2 : n ≤ 1073741824
  ·go_wp2
   go_ret
   exact ⟨by rw [HB.out]; simp [h1, h2], rfl⟩
  ·go_wp2
   go_ret
   exact ⟨by rw [HB.out]; simp [h2], rfl⟩
 ·go_wp2
  go_ret
  exact ⟨by rw [HB.out]; simp; omega, rfl⟩
theorem isfile_gen (f : Int × Int) (w : World) : Calls Tryz.prog 231 #[.agg #[.int .i64 f.1, .int .i64 f.2]] w fun e w' => e = .returned (.bool (isFile f)) ∧ Below w.heap.size w w' := by
 obtain ⟨l, n⟩ := f
 obtain ⟨b, hb⟩ : ∃ b, b = isFile (l, n) := ⟨_, rfl⟩
 rw [← hb]
 unfold isFile at hb
 simp only at hb ⊢
 cases hn : isNum n with
 | false =>
  rw [hn] at hb
  have hq := isnum_gen n
  rw [hn] at hq
  have HB := Lib.hid hb
  clear hb hn
  go_enter Tryz.func231, Tryz.ntmps231
  go_wp2_with fail
  refine (hq _).mono ?_
  rintro e w1 ⟨rfl, rfl⟩
  go_wp2
  go_ret
  exact ⟨by rw [HB.out]; rfl, (Below.refl _ _).alloc (Nat.le_refl _) _⟩
 | true =>
  rw [hn] at hb
  have hq := isnum_gen n
  rw [hn] at hq
  have HB := Lib.hid hb
  clear hb hn
  by_cases h1 : 0 ≤ l
  ·by_cases h2 : l ≤ 3
   ·go_enter Tryz.func231, Tryz.ntmps231
    go_wp2_with fail
    refine (hq _).mono ?_
    rintro e w1 ⟨rfl, rfl⟩
    go_wp2
    go_ret
    exact ⟨by rw [HB.out]; simp [h1, h2], (Below.refl _ _).alloc (Nat.le_refl _) _⟩
   ·go_enter Tryz.func231, Tryz.ntmps231
    go_wp2_with fail
    refine (hq _).mono ?_
    rintro e w1 ⟨rfl, rfl⟩
    go_wp2
    go_ret
    exact ⟨by rw [HB.out]; simp; omega, (Below.refl _ _).alloc (Nat.le_refl _) _⟩
  ·go_enter Tryz.func231, Tryz.ntmps231
   go_wp2_with fail
   refine (hq _).mono ?_
   rintro e w1 ⟨rfl, rfl⟩
   go_wp2
   go_ret
   exact ⟨by rw [HB.out]; simp; omega, (Below.refl _ _).alloc (Nat.le_refl _) _⟩
theorem okc_any (f : Int × Int) (b : Nat) (m : Int) (w : World) (hc : w.cell? ⟨b, 1, none⟩ = some (.int .i64 m)) :
  Calls Tryz.prog 233 #[.agg #[.int .i64 f.1, .int .i64 f.2], .pointer (some ⟨b, 0, none⟩)] w fun e w' => e = .returned (.bool (f.2 == m)) ∧ Below w.heap.size w w' := by
 have hc1 : ∀ o, (w.alloc o).cell? ⟨b, 1, none⟩ = some (.int .i64 m) := fun o => (World.cell?_alloc_lt w o _ (World.block_lt_of_cell? w _ hc)).trans hc
 go_enter Tryz.func233, Tryz.ntmps233
 go_wp2
 go_ret
 exact ⟨rfl, (Below.refl _ _).alloc (Nat.le_refl _) _⟩
theorem apc_any (f : Int × Int) (p : Addr) (m : Int) (w : World) (hc : w.cell? p = some (.int .i64 m)) :
  Calls Tryz.prog 238 #[.agg #[.int .i64 f.1, .int .i64 f.2], .pointer (some p)] w fun e w' => e = .returned (.bool (f.2 == m)) ∧ Below w.heap.size w w' := by
 have hc1 : ∀ o, (w.alloc o).cell? p = some (.int .i64 m) := fun o => (World.cell?_alloc_lt w o _ (World.block_lt_of_cell? w _ hc)).trans hc
 go_enter Tryz.func238, Tryz.ntmps238
 go_wp2
 go_ret
 exact ⟨rfl, (Below.refl _ _).alloc (Nat.le_refl _) _⟩
theorem may2_any (f : Int × Int) (w : World) : Calls Tryz.prog 264 #[.agg #[.int .i64 f.1, .int .i64 f.2]] w fun e w' => e = .returned (.bool (!isFile f)) ∧ Below w.heap.size w w' := by
 go_enter Tryz.func264, Tryz.ntmps264
 go_wp2_with fail
 refine (isfile_gen f _).mono ?_
 rintro e w1 ⟨rfl, hb⟩
 go_wp2
 go_ret
 exact ⟨rfl, later_ ((Below.refl _ _).alloc (Nat.le_refl _) _) hb⟩
theorem may1_any (n : Int) (w : World) : Calls Tryz.prog 263 #[.int .i64 n] w fun e w' => e = .returned (.bool (!isNum n)) ∧ w = w' := by
 go_enter Tryz.func263, Tryz.ntmps263
 go_wp2_with fail
 refine (isnum_gen n _).mono ?_
 rintro e w1 ⟨rfl, rfl⟩
 go_wp2
 go_ret
 exact ⟨rfl, rfl⟩
theorem ret_i {k : IntKind} {a b : Int} (h : a = b) : Ending.returned (.int k a) = .returned (.int k b) := by rw [h]
theorem ret_b {a b : Bool} (h : a = b) : Ending.returned (.bool a) = .returned (.bool b) := by rw [h]
def fidx {α : Type} (P : α → Bool) (l : List α) : Int := if l.any P = true then (l.findIdx P : Int) else -1
theorem fidx_none {α : Type} {P : α → Bool} {l : List α} (h : l.any P = false) : fidx P l = -1 := by unfold fidx; rw [h]; rfl
theorem any_take {α : Type} {P : α → Bool} {l : List α} {k : Nat} (h : k < l.length) : (l.take (k + 1)).any P = ((l.take k).any P || P l[k]) := by
 rw [List.take_succ_eq_append_getElem h, List.any_append]
 simp
theorem fidx_some {α : Type} {P : α → Bool} {l : List α} {k : Nat} (hl : k < l.length) (h0 : (l.take k).any P = false) (h1 : P l[k] = true) : fidx P l = (k : Int) := by
 unfold fidx
 rw [if_pos (List.any_eq_true.2 ⟨_, List.getElem_mem hl, h1⟩)]
 congr 1
 rw [List.findIdx_eq hl]
 refine ⟨h1, fun j hj => ?_⟩
 have := List.any_eq_false.1 h0 l[j] (by
  rw [List.mem_take_iff_getElem]
  exact ⟨j, by omega, rfl⟩)
 simpa using this
theorem fidx_ge {α : Type} (P : α → Bool) (l : List α) : decide (0 ≤ fidx P l) = l.any P := by
 unfold fidx
 split
 ·rename_i h; rw [h]; simp
 ·rename_i h; simp at h; simp; exact h
theorem fidx_lt {α : Type} {P : α → Bool} {l : List α} (h : l.any P = true) : ∃ i : Nat, fidx P l = (i : Int) ∧ ∃ hi : i < l.length, P l[i] = true ∧ l.findIdx P = i := by
 unfold fidx
 rw [if_pos h]
 have hl : l.findIdx P < l.length := List.findIdx_lt_length.2 (by simpa using h)
 exact ⟨_, rfl, hl, List.findIdx_getElem (w := hl), rfl⟩
theorem fidx_cap (K : Nat) (hF : ∀ args w, (callFunc K args).run Tryz.prog w = .ok (.enter K args) w) (p : Addr) (P : Int × Int → Bool) (A : Option Addr) (n c : Nat) (fs : List (Int × Int)) (w : World) (hn : n ≤ 1000000) (hr : Row w.heap.size w A n 2 (fcells fs))
  (hK : ∀ f w1, Below w.heap.size w w1 → Calls Tryz.prog K #[.agg #[.int .i64 f.1, .int .i64 f.2], .pointer (some p)] w1 fun e w' => e = .returned (.bool (P f)) ∧ Below w1.heap.size w1 w') :
  Calls Tryz.prog 237 #[.slice A n c, .func (.func K) #[] #[.pointer (some p)]] w fun e w' => e = .returned (.int .i64 (fidx P fs)) ∧ Below w.heap.size w w' := by
 have hnn := hr.flen
 have HK := Lib.hid hK
 have HF := Lib.hid hF
 clear hK hF
 go_enter Tryz.func237, Tryz.ntmps237
 go_wp2
 go_loopw [8] (fun i wr => ∃ k : Nat, k ≤ n ∧ i = .int .i64 (k : Int) ∧ Hid ((fs.take k).any P = false) ∧ Below w.heap.size w wr) (fun i _ => n - (intOf i).toNat)
 case atStart => exact ⟨0, Nat.zero_le _, rfl, Lib.hid rfl, Below.refl _ _⟩
 case round =>
  obtain ⟨k, hk, rfl, hb, hbl⟩ := hrel
  by_cases hlt : k < n
  ·obtain ⟨a, hl, rfl, hbk, c0, c1⟩ := (hr.below hbl).file hlt
   have ht := any_take (P := P) hl
   have hs := fun h1 => fidx_some (P := P) hl hb.out h1
   generalize fs[k] = f at *
   have HT := Lib.hid ht
   have HS := Lib.hid hs
   clear ht hs hl
   have hc := HK.out f wr hbl
   cases hp : P f with
   | true =>
    rw [hp] at hc
    have HP := Lib.hid hp
    clear hp
    go_wp2_with fail
    rw [HF.out, Oper.upon_enter]
    refine hc.mono ?_
    rintro e w1 ⟨rfl, hb1⟩
    go_wp2
    go_ret
    exact ⟨ret_i (HS.out HP.out).symm, later_ hbl hb1⟩
   | false =>
    rw [hp] at hc
    have HP := Lib.hid hp
    clear hp
    go_wp2_with fail
    rw [HF.out, Oper.upon_enter]
    refine hc.mono ?_
    rintro e w1 ⟨rfl, hb1⟩
    go_wp2
    go_roundw
    case rel => exact ⟨k + 1, by omega, by go_num, Lib.hid (by rw [HT.out, hb.out, HP.out]; rfl), later_ hbl hb1⟩
    case measure => simp [intOf]; omega
  ·have hall : fidx P fs = -1 := fidx_none (by
    have hb' := hb.out
    rwa [List.take_of_length_le (by omega)] at hb')
   have HA := Lib.hid hall
   clear hall
   go_wp2
   go_ret
   exact ⟨ret_i HA.out.symm, hbl⟩
end
section
open Go Go.RowKit
theorem iidx_cap (K : Nat) (hF : ∀ args w, (callFunc K args).run Tryz.prog w = .ok (.enter K args) w) (cap : Array Value) (P : It → Bool) (A : Option Addr) (n c : Nat) (l : List It) (w : World) (hn : n ≤ 1000000) (hr : Row w.heap.size w A n 5 (itc l))
  (hK : ∀ x w1, Below w.heap.size w w1 → Calls Tryz.prog K (#[x.val] ++ cap) w1 fun e w' => e = .returned (.bool (P x)) ∧ Below w1.heap.size w1 w') :
  Calls Tryz.prog 148 #[.slice A n c, .func (.func K) #[] cap] w fun e w' => e = .returned (.int .i64 (fidx P l)) ∧ Below w.heap.size w w' := by
 have hnn := hr.itlen
 have HK := Lib.hid hK
 have HF := Lib.hid hF
 clear hK hF
 go_enter Tryz.func148, Tryz.ntmps148
 go_wp2
 go_loopw [8] (fun i wr => ∃ k : Nat, k ≤ n ∧ i = .int .i64 (k : Int) ∧ Hid ((l.take k).any P = false) ∧ Below w.heap.size w wr) (fun i _ => n - (intOf i).toNat)
 case atStart => exact ⟨0, Nat.zero_le _, rfl, Lib.hid rfl, Below.refl _ _⟩
 case round =>
  obtain ⟨k, hk, rfl, hb, hbl⟩ := hrel
  by_cases hlt : k < n
  ·obtain ⟨a, hl, rfl, hbk, c0, c1, c2, c3, c4⟩ := (hr.below hbl).it hlt
   have ht := any_take (P := P) hl
   have hs := fun h1 => fidx_some (P := P) hl hb.out h1
   generalize l[k] = f at *
   have HT := Lib.hid ht
   have HS := Lib.hid hs
   clear ht hs hl
   have hc := HK.out f wr hbl
   unfold It.val at hc
   generalize hp : P f = p at hc
   have HP := Lib.hid hp
   clear hp
   go_wp2_with fail
   rw [HF.out, Oper.upon_enter]
   refine hc.mono ?_
   rintro e w1 ⟨rfl, hb1⟩
   cases p with
   | true =>
    go_wp2
    go_ret
    exact ⟨ret_i (HS.out HP.out).symm, later_ hbl hb1⟩
   | false =>
    go_wp2
    go_roundw
    case rel => exact ⟨k + 1, by omega, by go_num, Lib.hid (by rw [HT.out, hb.out, HP.out]; rfl), later_ hbl hb1⟩
    case measure => simp [intOf]; omega
  ·have hall : fidx P l = -1 := fidx_none (by
    have hb' := hb.out
    rwa [List.take_of_length_le (by omega)] at hb')
   have HA := Lib.hid hall
   clear hall
   go_wp2
   go_ret
   exact ⟨ret_i HA.out.symm, hbl⟩
theorem ihas_cap (K : Nat) (hF : ∀ args w, (callFunc K args).run Tryz.prog w = .ok (.enter K args) w) (cap : Array Value) (P : It → Bool) (A : Option Addr) (n c : Nat) (l : List It) (w : World) (hn : n ≤ 1000000) (hr : Row w.heap.size w A n 5 (itc l))
  (hK : ∀ x w1, Below w.heap.size w w1 → Calls Tryz.prog K (#[x.val] ++ cap) w1 fun e w' => e = .returned (.bool (P x)) ∧ Below w1.heap.size w1 w') :
  Calls Tryz.prog 76 #[.slice A n c, .func (.func K) #[] cap] w fun e w' => e = .returned (.bool (l.any P)) ∧ Below w.heap.size w w' := by
 have hge := fidx_ge P l
 have hq := iidx_cap K hF cap P A n c l w hn hr hK
 clear hK
 generalize fidx P l = i at *
 have HGE := Lib.hid hge
 clear hge
 go_enter Tryz.func76, Tryz.ntmps76
 go_wp2_with fail
 refine hq.mono ?_
 rintro e w1 ⟨rfl, hb⟩
 clear hq
 go_wp2
 go_ret
 exact ⟨ret_b HGE.out, hb⟩
end
end Go.Proofs.YtdkjoigpahafmaaGreatDoor
