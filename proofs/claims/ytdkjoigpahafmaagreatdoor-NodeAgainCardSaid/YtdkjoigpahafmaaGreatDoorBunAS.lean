/- Texts NodK, RefK, RefL, PlainRefAdd, RefM, RefT, RefS, LawN, ItemsOpen, NodL, MsgC, OpsOpen, MsgD in one. No conditions. -/
import Derived.Test.YtdkjoigpahafmaaGreatDoorBunAA
import Derived.Test.YtdkjoigpahafmaaGreatDoorBunAP
import Derived.Test.YtdkjoigpahafmaaGreatDoorBunAI
import Derived.Test.YtdkjoigpahafmaaGreatDoorBunAD
import Derived.Test.YtdkjoigpahafmaaGreatDoorBunAR
import Derived.Test.YtdkjoigpahafmaaGreatDoorBunAM
import Derived.Test.YtdkjoigpahafmaaGreatDoorBunAJ
import Derived.Test.YtdkjoigpahafmaaGreatDoorBunAQ
import Derived.Lib.MinMax

set_option linter.unusedSimpArgs false
set_option linter.unusedVariables false
set_option maxRecDepth 100000
set_option maxHeartbeats 16000000
namespace Go.Proofs.YtdkjoigpahafmaaGreatDoor
section
open Go Go.RowKit Go.Lib Go.Shelf
variable {w w1 w2 : World} {X X1 X2 : Dw} {S S1 S2 : Sd} {Y Y1 Y2 : Yw} {V V1 V2 : Sv} {nb now grace : Nat} {ni : Int}
def NdBorn (X : Dw) (w : World) (S' : Sd) (V' : Sv) (ni : Int) (grace : Nat) (e : Ending) (w' : World) : Prop := ∃ nb X' Y, e = .returned (.tuple #[.pointer (some ⟨nb, 0, none⟩), .int .i64 0]) ∧ X'.d = X.d ∧ NdAt w' X' S' Y V' nb ni V'.M.v.at_ grace ∧ Chg X.foot w w' ∧ (∀ g ∈ XY X' Y, g ∈ X.foot ∨ w.heap.size ≤ g) ∧ w.heap.size ≤ nb
theorem nopen_any (h : Dm w X S) (hd : S.dead = false) (hno : ∀ s ∈ S.list, St.isOwn s = false) (hld : S.load ≤ 100000000000) (S' : Sd) (V' : Sv) (hR : St.create S = (S', some V', 0)) (hfl : V'.M.v.files.length ≤ 10000) (hat : V'.M.v.at_ ≤ 1099511627776) (ni : Int) (grace : Nat) (hni : 0 ≤ ni ∧ ni < 7) (hgr : grace ≤ 1099511627776) :
  Calls Tryz.prog 13 #[.int .i64 ni, .pointer (some ⟨X.d, 0, none⟩), .int .u64 (grace : Int)] w (NdBorn X w S' V' ni grace) := by
 have HOP := Lib.hid (sopen_new h hd hno hld S' V' hR)
 have e1 : (ni < (0 : Int)) = False := eq_false (by omega)
 have e2 : ((7 : Int) ≤ ni) = False := eq_false (by omega)
 have e3 : ((1099511627776 : Int) < (grace : Int)) = False := eq_false (by omega)
 obtain ⟨a, ha⟩ : ∃ a, a = V'.M.v.at_ := ⟨_, rfl⟩
 have hfd : ∀ (x1 x2 x3 x4 : Int) W', (Instr.field 32 (.agg #[.int .u64 x1, .int .u64 x2, .int .u64 x3, .int .u64 x4]) 2).run Tryz.prog W' = .ok (.int .u64 x3) W' := fun _ _ _ _ _ => rfl
 have hmin : min (a : Int) 1099511627776 = (a : Int) := by omega
 have HA := Lib.hid (And.intro ha hfl)
 clear h hd hno hld hR hat ha hfl
 go_enter Tryz.func13, Tryz.ntmps13
 go_wp2_with fail
 with_reducible refine HOP.out.mono ?_
 rintro e w1 ⟨X1, Y, rfl, e4, h1, c1, f1⟩
 have hme := smeta_any h1 HA.out.2
 obtain ⟨mt, hmt⟩ : ∃ mt, mt = St.meta_ V' := ⟨_, rfl⟩
 rw [← hmt] at hme
 have hma : mt.at_ = a := by rw [HA.out.1, hmt]; rfl
 obtain ⟨m1, m2, m3, m4⟩ := mt
 simp only at hma
 subst hma
 unfold Mt.val at hme
 simp only at hme
 have HME := Lib.hid hme
 have H1 := Lib.hid (And.intro h1 (And.intro e4 (And.intro c1 f1)))
 clear hme h1 e4 c1 f1 hmt
 go_wp2_with fail
 with_reducible refine HME.out.mono ?_
 rintro e w2 ⟨rfl, hb2⟩
 have hb3 := (Below.refl w2.heap.size w2).alloc (Nat.le_refl _) (.cells #[.int .i64 ni, .pointer (some ⟨Y.s, 0, none⟩), .int .u64 (m3 : Int), .int .u64 (grace : Int)] 100)
 have hx := BoxO.new w2 #[.int .i64 ni, .pointer (some ⟨Y.s, 0, none⟩), .int .u64 (m3 : Int), .int .u64 (grace : Int)] 100
 have HZ : Hid (NdBorn X w S' V' ni grace (.returned (.tuple #[.pointer (some ⟨w2.heap.size, 0, none⟩), .int .i64 0])) (w2.alloc (.cells #[.int .i64 ni, .pointer (some ⟨Y.s, 0, none⟩), .int .u64 (m3 : Int), .int .u64 (grace : Int)] 100))) := Lib.hid (by
  obtain ⟨h1, e4, c1, f1⟩ := H1.out
  have hlt := h1.lt
  have hs := hb2.size
  rw [HA.out.1] at hx ⊢
  exact ⟨w2.heap.size, X1, Y, rfl, e4, ⟨(h1.below hb2).below (by rw [← HA.out.1]; exact hb3), hx, fun hm => by have := hlt _ hm; omega⟩, c1.trans (Chg.of_below (later_ hb2 (by rw [← HA.out.1]; exact hb3)) X.foot) (fun g hg => .inl hg), f1, Nat.le_trans c1.size hs⟩)
 clear hb2 hb3 hx HME
 go_wp2
 go_ret2
 exact HZ.out
theorem nstate_any (h : NdAt w X S Y V nb ni now grace) (hn : V.st.length ≤ 1000000) :
  Calls Tryz.prog 20 #[.pointer (some ⟨nb, 0, none⟩)] w fun e w' => ∃ A' c', e = .returned (.slice A' Y.A.n c') ∧ w'.ownsRow w.heap.size 27 5 (.slice A' Y.A.n c') Y.A.n (itc V.st) ∧ Below w.heap.size w w' := by
 have k1 := h.box.cell 1
 simp only [gE0, gE1] at k1
 have HS := Lib.hid (sstate_any h.at_ hn)
 clear h
 go_enter Tryz.func20, Tryz.ntmps20
 go_wp2_with fail
 with_reducible refine HS.out.mono ?_
 rintro e w1 ⟨A', c', rfl, h1, h2⟩
 have H1 := Lib.hid (And.intro h1 h2)
 clear h1 h2
 go_wp2
 go_ret
 exact ⟨_, _, rfl, H1.out⟩
theorem nmeta_any (h : NdAt w X S Y V nb ni now grace) (hn : V.M.v.files.length ≤ 10000) :
  Calls Tryz.prog 24 #[.pointer (some ⟨nb, 0, none⟩)] w fun e w' => e = .returned (St.meta_ V).val ∧ Below w.heap.size w w' := by
 have hb1 := (Below.refl w.heap.size w).alloc (Nat.le_refl _) (.cells #[.int .u64 0, .int .u64 0, .int .u64 0, .int .u64 0] 32)
 have hbx := BoxO.new w #[.int .u64 0, .int .u64 0, .int .u64 0, .int .u64 0] 32
 have h1 := h.below hb1
 have k1 := h1.box.cell 1
 simp only [gE0, gE1] at k1
 have hme := smeta_any h1.at_ hn
 obtain ⟨mt, hmt⟩ : ∃ mt, mt = St.meta_ V := ⟨_, rfl⟩
 rw [← hmt] at hme ⊢
 unfold Mt.val at hme ⊢
 have HME := Lib.hid hme
 have HB := Lib.hid (And.intro hb1 hbx)
 clear hme hmt h h1 hb1 hbx
 go_enter Tryz.func24, Tryz.ntmps24
 go_wp2_with fail
 with_reducible refine HME.out.mono ?_
 rintro e w2 ⟨rfl, hb2⟩
 have hbz := later_ HB.out.1 hb2
 have hx3 := HB.out.2.below hb2
 have f0 := hx3.free 0
 have f1 := hx3.free 1
 have f2 := hx3.free 2
 have f3 := hx3.free 3
 have s0 := hx3.cell 0
 have s1 := hx3.cell 1
 have s2 := hx3.cell 2
 have s3 := hx3.cell 3
 simp only [gE0, gE1] at s0 s1 s2 s3
 have HQ := Lib.hid hbz
 clear HME HB hb2 hx3 hbz
 go_wp2
 refine bodyPost_ret (v := .agg #[.int .u64 (mt.floor : Int), .int .u64 (mt.cert : Int), .int .u64 (mt.at_ : Int), .int .u64 (mt.lease : Int)]) (by simp [results, go_sem, *]) rfl ⟨rfl, ?_⟩
 exact (((HQ.out.setCell (p := ⟨w.heap.size, 0, none⟩) (Nat.le_refl _) _).setCell (p := ⟨w.heap.size, 1, none⟩) (Nat.le_refl _) _).setCell (p := ⟨w.heap.size, 2, none⟩) (Nat.le_refl _) _).setCell (p := ⟨w.heap.size, 3, none⟩) (Nat.le_refl _) _
theorem nnow_any (h : NdAt w X S Y V nb ni now grace) :
  Calls Tryz.prog 54 #[.pointer (some ⟨nb, 0, none⟩)] w fun e w' => e = .returned (.int .u64 (now : Int)) ∧ w' = w := by
 have k1 := h.box.cell 2
 simp only [gE0, gE1] at k1
 clear h
 go_enter Tryz.func54, Tryz.ntmps54
 go_wp2
 go_ret
 exact ⟨rfl, rfl⟩
end
section
open Go Go.RowKit Go.Lib
end
section
open Go Go.RowKit Go.Lib
end
section
open It
theorem three {l : List It} (h : Rises l) (x : It) : l = l.filter (fun y => less y x) ++ (l.filter (fun y => same x y) ++ l.filter (fun y => less x y)) := by
 induction l with
 | nil => rfl
 | cons a r ih =>
  obtain ⟨a1, a2⟩ := List.pairwise_cons.1 h
  have ih := ih a2
  cases h1 : less a x with
  | true =>
   have h2 : less x a = false := by rw [less_iff] at h1; rw [less_no]; omega
   have h3 : same x a = false := by simp [same, h1]
   simp only [List.filter_cons, h1, h2, h3, if_true, Bool.false_eq_true, if_false, List.cons_append]
   rw [← ih]
  | false =>
   have hl : r.filter (fun y => less y x) = [] := List.filter_eq_nil_iff.2 fun y hy => by
    have := a1 y hy
    rw [less_iff] at this
    rw [less_no] at h1
    simp only [Bool.not_eq_true, less_no]
    omega
   cases h2 : less x a with
   | true =>
    have h3 : same x a = false := by simp [same, h2]
    have hs : r.filter (fun y => same x y) = [] := List.filter_eq_nil_iff.2 fun y hy => by
     have := a1 y hy
     rw [less_iff] at this h2
     rw [same_iff]
     omega
    rw [hl, hs] at ih
    simp only [List.filter_cons, h1, h2, h3, if_true, Bool.false_eq_true, if_false, hl, hs, List.nil_append]
    exact congrArg _ (by simpa using ih)
   | false =>
    have h3 : same x a = true := by simp [same, h1, h2]
    rw [hl, List.nil_append] at ih
    simp only [List.filter_cons, h1, h2, h3, if_true, Bool.false_eq_true, if_false, hl, List.nil_append, List.cons_append]
    rw [← ih]
end
section
open Go Go.RowKit Go.Lib
def RaddPost (w : World) (A : Option Addr) (R : List It) (e : Ending) (w' : World) : Prop := ∃ A' k c', e = .returned (.slice A' k c') ∧ k = R.length ∧ Row w'.heap.size w' A' k 5 (itc R) ∧ (A' = A ∨ ∀ a, A' = some a → w.heap.size ≤ a.block ∧ a.block < w'.heap.size) ∧ Below w.heap.size w w'
theorem RaddPost.same {w w' : World} {A : Option Addr} {n c : Nat} {l R : List It} (hr : Row w.heap.size w A n 5 (itc l)) (hb : Below w.heap.size w w') (e : R = l) : RaddPost w A R (.returned (.slice A n c)) w' := ⟨A, n, c, rfl, by rw [e]; exact hr.itlen.symm, by rw [e]; exact (hr.below hb).up hb.size, .inl rfl, hb⟩
theorem RaddPost.own {w w' : World} {B : Nat} {A A' : Option Addr} {q c : Nat} {R L : List It} (h : w'.ownsRow B 27 5 (.slice A' q c) q (itc L)) (hB : w.heap.size ≤ B) (hb : Below w.heap.size w w') (e : R = L) : RaddPost w A R (.returned (.slice A' q c)) w' := by
 subst e
 obtain ⟨A3, c3, hv, hqc, hqm, hlow⟩ := own_form h
 injection hv with e1 e2 e3
 subst e1 e3
 exact ⟨_, _, _, rfl, (Row.own h).itlen.symm, Row.own h, .inr fun a ha => ⟨Nat.le_trans hB (hlow a ha).1, (hlow a ha).2.1⟩, hb⟩
end
section
open Go Go.RowKit Go.Lib
end
section
open Go Go.RowKit Go.Lib
end
section
open Go Go.RowKit Go.Lib Go.Shelf
variable {w w0 w1 w2 : World} {X X1 X2 : Dw} {S S1 S2 : Sd} {Y Y1 Y2 : Yw} {V V1 V2 : Sv} {nb now grace : Nat} {ni : Int}
structure NdW (w0 w : World) (X : Dw) (S : Sd) (Y : Yw) (V : Sv) (nb : Nat) (ni : Int) (now grace : Nat) : Prop where
 at_ : NdAt w X S Y V nb ni now grace
 low : ∀ g ∈ XY X Y, w0.heap.size ≤ g
 bel : Below w0.heap.size w0 w
theorem NdW.below (h : NdW w0 w X S Y V nb ni now grace) (hb : Below w.heap.size w w1) : NdW w0 w1 X S Y V nb ni now grace := ⟨h.at_.below hb, h.low, later_ h.bel hb⟩
theorem NdW.turn (h : NdW w0 w X S Y V nb ni now grace) (hn : NdAt w1 X1 S1 Y1 V1 nb ni now grace) (c : Chg (XY X Y) w w1) (f : ∀ g ∈ XY X1 Y1, g ∈ XY X Y ∨ w.heap.size ≤ g) : NdW w0 w1 X1 S1 Y1 V1 nb ni now grace :=
 ⟨hn, fun g hg => (f g hg).elim (h.low g) (Nat.le_trans h.bel.size), h.bel.trans (c.below h.bel.size h.low)⟩
theorem dm_nw {q : Int} (hq : q ≤ 1099511627776) (he : Env w) (hd : DK w1 X (Sd.new q)) (hb : Below w.heap.size w w1) (hf : ∀ g ∈ X.foot, w.heap.size ≤ g) : Dm w1 X (Sd.new q) :=
 ⟨hd, Sd.new_wf q hq, he.below hb, fun g hg => Nat.le_trans he.base (hf g hg)⟩
theorem nborn2_any {q : Int} (h1 : 500000 ≤ q) (h2 : q ≤ 1099511627776) (he : Env w) (hd : DK w1 X (Sd.new q)) (hb : Below w.heap.size w w1) (hf : ∀ g ∈ X.foot, w.heap.size ≤ g) (ni : Int) (grace : Nat) (hni : 0 ≤ ni ∧ ni < 7) (hgr : grace ≤ 1099511627776) :
  Calls Tryz.prog 13 #[.int .i64 ni, .pointer (some ⟨X.d, 0, none⟩), .int .u64 (grace : Int)] w1 fun e w' => ∃ nb X' Y S', e = .returned (.tuple #[.pointer (some ⟨nb, 0, none⟩), .int .i64 0]) ∧ NdW w w' X' S' Y Nd.v0 nb ni 0 grace ∧ Nd.NS q S' Nd.v0 0 100 ∧ w.heap.size ≤ nb := by
 obtain ⟨S', hcr, hns⟩ := Nd.born q h1 h2
 refine (nopen_any (dm_nw h2 he hd hb hf) rfl (by rw [show (Sd.new q).list = [] by simp [Sd.list, Sd.new]]; intro s hs; cases hs) (by show 0 ≤ _; omega) S' Nd.v0 hcr (by decide) (by decide) ni grace hni hgr).mono ?_
 rintro e w' ⟨nb, X', Y, rfl, e1, h3, c, f, hnb⟩
 have hlow : ∀ g ∈ XY X' Y, w.heap.size ≤ g := fun g hg => by
  rcases f g hg with z | z
  ·exact hf g z
  ·exact Nat.le_trans hb.size z
 exact ⟨nb, X', Y, S', rfl, ⟨h3, hlow, hb.trans (c.below hb.size hf)⟩, hns, Nat.le_trans hb.size hnb⟩
theorem nborn_any {q : Int} (h1 : 500000 ≤ q) (h2 : q ≤ 1099511627776) (he : Env w) (hd : DK w1 X (Sd.new q)) (hb : Below w.heap.size w w1) (hf : ∀ g ∈ X.foot, w.heap.size ≤ g) (ni : Int) (grace : Nat) (hni : 0 ≤ ni ∧ ni < 7) (hgr : grace ≤ 1099511627776) :
  Calls Tryz.prog 13 #[.int .i64 ni, .pointer (some ⟨X.d, 0, none⟩), .int .u64 (grace : Int)] w1 fun e w' => ∃ nb X' Y S', e = .returned (.tuple #[.pointer (some ⟨nb, 0, none⟩), .int .i64 0]) ∧ NdW w w' X' S' Y Nd.v0 nb ni 0 grace ∧ Nd.NS q S' Nd.v0 0 100 :=
 (nborn2_any h1 h2 he hd hb hf ni grace hni hgr).mono fun _ _ ⟨nb, X', Y, S', a, b, c, _⟩ => ⟨nb, X', Y, S', a, b, c⟩
theorem naw_any (he : Env w) : Calls Tryz.prog 22 #[] w fun e w' => e = .returned (.bool true) ∧ Below w.heap.size w w' := by
 have HDN := Lib.hid (dnew_any 1048576 w)
 have HE := Lib.hid he
 clear he
 go_enter Tryz.func22, Tryz.ntmps22
 go_wp2_with fail
 with_reducible refine HDN.out.mono ?_
 rintro e w1 ⟨X0, rfl, hdk, hb1, hfo⟩
 have hop := nborn_any (by omega) (by omega) HE.out hdk hb1 hfo 2 5 (by omega) (by omega)
 rw [show ((5 : Nat) : Int) = 5 from rfl] at hop
 have HOP := Lib.hid hop
 clear hop hdk hb1 hfo HDN
 go_wp2_with fail
 with_reducible refine HOP.out.mono ?_
 rintro e w2 ⟨nb, X, Y, S, rfl, hw, hns⟩
 have hask := hask_any hw.at_ (hns.nrm (by omega) (by omega) (by simp [Nd.v0])) 1 3 7 none 0 0 [] ⟨by simp, by simp, by simp, by simp, by simp, by simp, rfl, .inl rfl⟩ Row.nil_ (by omega)
 rw [show ((3 : Nat) : Int) = 3 from rfl, show ((7 : Nat) : Int) = 7 from rfl] at hask
 have HASK := Lib.hid hask
 have HWB := Lib.hid hw.bel
 have HLOW := Lib.hid hw.low
 clear hask hw hns HOP
 go_wp2_with fail
 with_reducible refine HASK.out.mono ?_
 rintro e w3 ⟨X1, Y1, e1, e2, h3, c3, f3, na3, g, B, n, c, rfl, ha, hg, hr, hB, hgx, hBx⟩
 have hn0 : n = 0 := by
  have := hr.itlen
  simpa [Nd.v0] using this.symm
 subst hn0
 have a0 := ha.cell 0
 have a2 := ha.cell 2
 have a3 := ha.cell 3
 have a5 := ha.cell 5
 simp only [gE0, gE1] at a0 a2 a3 a5
 have HNW := Lib.hid (nnow_any h3)
 have HB3 := Lib.hid (HWB.out.trans (c3.below HWB.out.size HLOW.out))
 clear HASK e1 e2 h3 c3 f3 na3 ha hg hr hB hgx hBx HWB HLOW
 go_wp2_with fail
 with_reducible refine HNW.out.mono ?_
 rintro e w4 ⟨rfl, rfl⟩
 go_wp2
 go_ret
 exact ⟨rfl, HB3.out⟩
end
section
open Go Go.RowKit Go.ChangeShapes Go.WideShapes Go.Deep Go.Joins
theorem row_of_items (W : World) (a : Addr) (len : Nat) (f : Nat → It) (h : ∀ i, i < len → ∀ j v, (f i).cells[j]? = some v → W.cell? (a.add (i * 5 + j)) = some v) : Row W.heap.size W (some a) len 5 (itc ((List.range len).map f)) := by
 have hl : (itc ((List.range len).map f)).length = len * 5 := by rw [itc_length]; simp
 refine ⟨hl, fun j hj => ?_⟩
 have hi : j / 5 < len := by omega
 have hm : j % 5 < 5 := Nat.mod_lt _ (by omega)
 have hg := itc_get ((List.range len).map f) (j / 5) (j % 5) (by simpa using hi) hm
 rw [show j / 5 * 5 + j % 5 = j by omega] at hg
 simp only [List.getElem_map, List.getElem_range] at hg
 have hlt : j % 5 < (f (j / 5)).cells.length := by rw [It.cells_len]; exact hm
 have hc := h (j / 5) hi (j % 5) _ (List.getElem?_eq_getElem hlt)
 rw [show j / 5 * 5 + j % 5 = j by omega] at hc
 have hb := World.block_lt_of_cell? W _ hc
 rw [add_block] at hb
 refine ⟨a, rfl, hb, ?_⟩
 rw [hc, ← List.getElem?_eq_getElem hlt, ← hg, List.getElem?_eq_getElem hj]
end
section
open Go Go.RowKit Go.Lib Go.Shelf
variable {w w0 w1 w2 : World} {X X1 X2 : Dw} {S S1 S2 : Sd} {Y Y1 Y2 : Yw} {V V1 V2 : Sv} {nb now grace : Nat} {ni : Int} {F G : List Nat}
theorem Fixed.other {A : Option Addr} {n c : Nat} {l : List It} (h : Fixed F w fun w => Its 0 w A n c l) (hA : ∀ j, j < (itc l).length → ∀ a, A = some a → a.block ∉ G) (k : Chg G w w1) (hG : ∀ g ∈ G, g < w.heap.size) : Fixed F w1 fun w => Its 0 w A n c l := fun w2 k2 => by
 have hsz := Nat.le_trans k.size k2.size
 have hb : ∀ g ∈ G, (back w w2 G).heap[g]? = w.heap[g]? := fun g hg => back_in hg (hG g hg) (Nat.lt_of_lt_of_le (hG g hg) hsz)
 have h1 := h (back w w2 G) ⟨k2.os.trans k.os, k2.tape.trans k.tape, k2.output.trans k.output, by rw [back_size]; exact hsz, fun g hg hF => by
  by_cases hm : g ∈ G
  ·exact hb g hm
  ·rw [back_out hm, k2.block g (Nat.lt_of_lt_of_le hg k.size) hF, k.block g hg hm]⟩
 refine ⟨?_, h1.nc, h1.cm, h1.low⟩
 have hr := h1.row
 rw [back_size] at hr
 exact row_chg (F := G) (w := back w w2 G) (w' := w2) ⟨rfl, rfl, rfl, by rw [back_size]; exact Nat.le_refl _, fun g _ hm => (back_out hm).symm⟩ hr (by rw [back_size]; exact Nat.le_refl _) hA
def Away (G : List Nat) (Y : Yw) (V : Sv) : Prop := ∀ j, j < (itc V.st).length → ∀ a, Y.A.a = some a → a.block ∉ G
theorem NdAt.other (h : NdAt w X S Y V nb ni now grace) (ht : V.tabs = []) (hv : V.M.v.files = []) (hA : Away G Y V) (c : Chg G w w1) (hG : ∀ g ∈ G, g ∉ XY X Y ∧ NG ≤ g ∧ g < w.heap.size) (hn : nb ∉ G) : NdAt w1 X S Y V nb ni now grace := by
 have hf : ∀ g ∈ Y.foot, g ∉ G := fun g h1 h2 => (hG g h2).1 (List.mem_append_right _ h1)
 refine ⟨⟨h.at_.dm.chg c (fun g hg => ⟨fun hm => (hG g hg).1 (List.mem_append_left _ hm), (hG g hg).2.1⟩), h.at_.box.chg c (hf _ (Yw.mem_foot.2 (.inl rfl))), h.at_.man.chg c (hf _ (Yw.mem_foot.2 (.inr (.inl rfl)))), ?_, h.at_.pout, h.at_.log.chg c (hf _ (Yw.mem_foot.2 (.inr (.inr (.inl rfl))))), h.at_.mem.chg c (fun g hg => hf g (Yw.mem_foot.2 ?_)), h.at_.its, ?_, h.at_.st.other hA c (fun g hg => (hG g hg).2.2), h.at_.apart, h.at_.ng⟩, h.box.chg c hn, h.out⟩
 ·have hr := h.at_.row
  rw [hv] at hr ⊢
  exact ⟨⟨hr.row.len, fun j hj => absurd hj (by simp [fcells])⟩, hr.nc, hr.cm, hr.nb, hr.away⟩
 ·rcases List.mem_cons.1 hg with rfl | hg
  ·exact .inr (.inr (.inr (.inl rfl)))
  ·exact .inr (.inr (.inr (.inr hg)))
 ·have := h.at_.tabs.now
  rw [ht] at this ⊢
  exact fun w2 _ => this.none w2
theorem Away.lt (h : NdAt w X S Y V nb ni now grace) : ∀ j, j < (itc V.st).length → ∀ a, Y.A.a = some a → a.block < w.heap.size := fun j hj a ha => by
 obtain ⟨b, e, hlt, _⟩ := h.at_.st.now.row.cell j hj
 rw [ha] at e
 injection e with e
 subst e
 exact hlt
structure Two (w0 w : World) (Xa : Dw) (Sa : Sd) (Ya : Yw) (Va : Sv) (na : Nat) (Xb : Dw) (Sb : Sd) (Yb : Yw) (Vb : Sv) (nb : Nat) : Prop where
 a : NdW w0 w Xa Sa Ya Va na 0 0 3
 b : NdW w0 w Xb Sb Yb Vb nb 0 0 3
 ap : ∀ g ∈ XY Xa Ya, g ∉ XY Xb Yb
 na : na ∉ XY Xb Yb
 nb : nb ∉ XY Xa Ya
 wa : Away (XY Xb Yb) Ya Va
 wb : Away (XY Xa Ya) Yb Vb
variable {Xa Xb : Dw} {Sa Sb : Sd} {Ya Yb : Yw} {Va Vb : Sv} {na : Nat}
theorem Two.swap (h : Two w0 w Xa Sa Ya Va na Xb Sb Yb Vb nb) : Two w0 w Xb Sb Yb Vb nb Xa Sa Ya Va na := ⟨h.b, h.a, fun g hb ha => h.ap g ha hb, h.nb, h.na, h.wb, h.wa⟩
theorem Two.below (h : Two w0 w Xa Sa Ya Va na Xb Sb Yb Vb nb) (hb : Below w.heap.size w w1) : Two w0 w1 Xa Sa Ya Va na Xb Sb Yb Vb nb := ⟨h.a.below hb, h.b.below hb, h.ap, h.na, h.nb, h.wa, h.wb⟩
theorem Two.step (h : Two w0 w Xa Sa Ya Va na Xb Sb Yb Vb nb) (hn : NdAt w1 X1 S1 Y1 V1 na 0 0 3) (c : Chg (XY Xa Ya) w w1) (f : ∀ g ∈ XY X1 Y1, g ∈ XY Xa Ya ∨ w.heap.size ≤ g) (k : NewA w Ya Y1) (ht : Vb.tabs = []) (hv : Vb.M.v.files = []) : Two w0 w1 X1 S1 Y1 V1 na Xb Sb Yb Vb nb := by
 have lb := h.b.at_.at_.lt
 have la := h.a.at_.at_.lt
 have ln := h.b.at_.box.lt
 have hb := h.b.at_.other ht hv h.wb c (fun g hg => ⟨h.ap g hg, by
  rcases List.mem_append.1 hg with z | z
  ·exact h.a.at_.at_.dm.base g z
  ·exact h.a.at_.at_.ng g z, la g hg⟩) h.nb
 refine ⟨h.a.turn hn c f, ⟨hb, h.b.low, h.b.bel.trans (c.below h.b.bel.size h.a.low)⟩, fun g hg hm => ?_, h.na, fun hm => ?_, fun j hj a ha hm => ?_, fun j hj a ha hm => ?_⟩
 ·rcases f g hg with z | z
  ·exact h.ap g z hm
  ·have := lb g hm
   omega
 ·rcases f _ hm with z | z
  ·exact h.nb z
  ·omega
 ·rcases k with k | k
  ·have e1 := h.a.at_.at_.alen
   have e2 := hn.at_.alen
   rw [k] at ha e2
   refine h.wa j ?_ a ha hm
   rw [itc_length] at hj ⊢
   omega
  ·have := k a ha
   have := lb _ hm
   omega
 ·rcases f _ hm with z | z
  ·exact h.wb j hj a ha z
  ·have := Away.lt h.b.at_ j hj a ha
   omega
theorem joins_twice {a b : List It} (h : Stt a) : joins (joins a b) b = joins a b := by
 rw [← joins_append]
 refine (joins_stt (b ++ b) h).1.eq_of (joins_stt b h).1 fun y => ?_
 rw [(joins_stt (b ++ b) h).2, (joins_stt b h).2]
 exact Eqv.of_mem (fun y _ => by simp) y
end
section
open Go Go.RowKit Go.Lib Go.Shelf
variable {w w1 w2 : World}
def isNd (x : Int) : Bool := decide (0 ≤ x) && decide (x < 7)
def hasIt (k : Int) : Bool := k == 1 || k == 5 || k == 7 || k == 8
def Mq.ok (m : Mq) (l : List It) : Bool := decide (1 ≤ m.k) && (decide (m.k ≤ 10) && (isNd m.frm && (isNd m.to_ && (decide (m.id ≤ 1099511627776) && (decide (m.no ≤ 281474976710656) && (l.all It.ok && (m.n == 0 || hasIt m.k)))))))
theorem isnode_any (x : Int) (w : World) : Calls Tryz.prog 102 #[.int .i64 x] w fun e w' => e = .returned (.bool (isNd x)) ∧ w' = w := by
 obtain ⟨r, hr⟩ : ∃ r, r = isNd x := ⟨_, rfl⟩
 rw [← hr]
 unfold isNd at hr
 by_cases h1 : (0 : Int) ≤ x
 ·by_cases h2 : x < (7 : Int)
  ·have HB := Lib.hid (hr.trans (show _ = true by simp [h1, h2]))
   clear hr
   go_enter Tryz.func102, Tryz.ntmps102
   go_wp2
   go_ret
   exact ⟨ret_bo HB.out.symm, rfl⟩
  ·have HB := Lib.hid (hr.trans (show _ = false by simp [h1, h2]))
   clear hr
   go_enter Tryz.func102, Tryz.ntmps102
   go_wp2
   go_ret
   exact ⟨ret_bo HB.out.symm, rfl⟩
 ·have HB := Lib.hid (hr.trans (show _ = false by simp [h1]))
  clear hr
  go_enter Tryz.func102, Tryz.ntmps102
  go_wp2
  go_ret
  exact ⟨ret_bo HB.out.symm, rfl⟩
theorem witems_any (x : Int) (w : World) : Calls Tryz.prog 103 #[.int .i64 x] w fun e w' => e = .returned (.bool (hasIt x)) ∧ w' = w := by
 by_cases h : x = 1 ∨ x = 5 ∨ x = 7 ∨ x = 8
 ·rcases h with rfl | rfl | rfl | rfl <;>
  ·go_enter Tryz.func103, Tryz.ntmps103
   go_wp2
   go_ret
   exact ⟨rfl, rfl⟩
 ·have e1 : (x == 1) = false := by simp; omega
  have e5 : (x == 5) = false := by simp; omega
  have e7 : (x == 7) = false := by simp; omega
  have e8 : (x == 8) = false := by simp; omega
  have HB : Hid (hasIt x = false) := Lib.hid (by unfold hasIt; rw [e1, e5, e7, e8]; rfl)
  go_enter Tryz.func103, Tryz.ntmps103
  go_wp2
  go_ret
  exact ⟨ret_bo HB.out.symm, rfl⟩
theorem mok_any (m : Mq) (l : List It) (w : World) (hn : m.n ≤ 1500) (hr : Row w.heap.size w m.A m.n 5 (itc l)) :
  Calls Tryz.prog 41 #[m.val] w fun e w' => e = .returned (.bool (m.ok l)) ∧ Below w.heap.size w w' := by
 obtain ⟨k, frm, to_, id, no, A, n, c⟩ := m
 obtain ⟨r, hrr⟩ : ∃ r, r = Mq.ok ⟨k, frm, to_, id, no, A, n, c⟩ l := ⟨_, rfl⟩
 rw [← hrr]
 unfold Mq.ok at hrr
 unfold Mq.val
 simp only at hn hr hrr ⊢
 have e7 : ((n : Int) ≤ (1500 : Int)) = True := eq_true (by omega)
 have hb1 := (Below.refl w.heap.size w).alloc (Nat.le_refl _) (.cells #[.int .i64 k, .int .i64 frm, .int .i64 to_, .int .u64 (id : Int), .int .u64 (no : Int), .slice A n c] 47)
 have hbx := BoxO.new w #[.int .i64 k, .int .i64 frm, .int .i64 to_, .int .u64 (id : Int), .int .u64 (no : Int), .slice A n c] 47
 have hal := iall_any A n c l _ (by omega) ((hr.below hb1).up hb1.size)
 obtain ⟨ab, hab⟩ : ∃ ab, ab = l.all It.ok := ⟨_, rfl⟩
 rw [← hab] at hal hrr
 obtain ⟨bf, hbf⟩ : ∃ b, b = isNd frm := ⟨_, rfl⟩
 obtain ⟨bt, hbt⟩ : ∃ b, b = isNd to_ := ⟨_, rfl⟩
 obtain ⟨bh, hbh⟩ : ∃ b, b = hasIt k := ⟨_, rfl⟩
 have hn1 := fun W => isnode_any frm W
 have hn2 := fun W => isnode_any to_ W
 have hwi := fun W => witems_any k W
 rw [← hbf] at hn1 hrr
 rw [← hbt] at hn2 hrr
 rw [← hbh] at hwi hrr
 have HAL := Lib.hid hal
 have HN1 := Lib.hid hn1
 have HN2 := Lib.hid hn2
 have HWI := Lib.hid hwi
 have HB := Lib.hid (And.intro hb1 hbx)
 have HB1 := Lib.hid hb1
 have HRR := Lib.hid hrr
 clear hal hn1 hn2 hwi hb1 hbx hr hab hbf hbt hbh hrr
 by_cases h1 : (1 : Int) ≤ k
 ·by_cases h2 : k ≤ (10 : Int)
  ·cases bf with
   | false =>
    have HZ : Hid (r = false) := Lib.hid (by rw [HRR.out]; simp [h1, h2])
    go_enter Tryz.func41, Tryz.ntmps41
    go_wp2_with fail
    refine (HN1.out _).mono ?_
    rintro e w1 ⟨rfl, rfl⟩
    go_wp2
    go_ret
    exact ⟨ret_bo HZ.out.symm, HB1.out⟩
   | true =>
    cases bt with
    | false =>
     have HZ : Hid (r = false) := Lib.hid (by rw [HRR.out]; simp [h1, h2])
     go_enter Tryz.func41, Tryz.ntmps41
     go_wp2_with fail
     refine (HN1.out _).mono ?_
     rintro e w1 ⟨rfl, rfl⟩
     go_wp2_with fail
     refine (HN2.out _).mono ?_
     rintro e w1 ⟨rfl, rfl⟩
     go_wp2
     go_ret
     exact ⟨ret_bo HZ.out.symm, HB1.out⟩
    | true =>
     by_cases h5 : (id : Int) ≤ (1099511627776 : Int)
     ·by_cases h6 : (no : Int) ≤ (281474976710656 : Int)
      ·cases ab with
       | false =>
        have HZ : Hid (r = false) := Lib.hid (by rw [HRR.out]; simp [h1, h2, show id ≤ 1099511627776 by omega, show no ≤ 281474976710656 by omega])
        go_enter Tryz.func41, Tryz.ntmps41
        go_wp2_with fail
        refine (HN1.out _).mono ?_
        rintro e w1 ⟨rfl, rfl⟩
        go_wp2_with fail
        refine (HN2.out _).mono ?_
        rintro e w1 ⟨rfl, rfl⟩
        go_wp2_with fail
        with_reducible refine HAL.out.mono ?_
        rintro e w1 ⟨rfl, hb2⟩
        have hbz := later_ HB.out.1 hb2
        have hx2 := HB.out.2.below hb2
        have c0 := hx2.cell 0
        have c5 := hx2.cell 5
        simp only [gE0, gE1] at c0 c5
        have HBZ := Lib.hid hbz
        clear hx2 HB HAL hb2 hbz HB1
        go_wp2
        go_ret
        exact ⟨ret_bo HZ.out.symm, HBZ.out⟩
       | true =>
        by_cases h9 : n = 0
        ·subst h9
         have HZ : Hid (r = true) := Lib.hid (by rw [HRR.out]; simp [h1, h2, show id ≤ 1099511627776 by omega, show no ≤ 281474976710656 by omega])
         go_enter Tryz.func41, Tryz.ntmps41
         go_wp2_with fail
         refine (HN1.out _).mono ?_
         rintro e w1 ⟨rfl, rfl⟩
         go_wp2_with fail
         refine (HN2.out _).mono ?_
         rintro e w1 ⟨rfl, rfl⟩
         go_wp2_with fail
         with_reducible refine HAL.out.mono ?_
         rintro e w1 ⟨rfl, hb2⟩
         have hbz := later_ HB.out.1 hb2
         have hx2 := HB.out.2.below hb2
         have c0 := hx2.cell 0
         have c5 := hx2.cell 5
         simp only [gE0, gE1] at c0 c5
         have HBZ := Lib.hid hbz
         clear hx2 HB HAL hb2 hbz HB1
         go_wp2
         go_ret
         exact ⟨ret_bo HZ.out.symm, HBZ.out⟩
        ·have e0 : ((n : Int) == 0) = false := by simp; omega
         cases bh with
         | false =>
          have HZ : Hid (r = false) := Lib.hid (by rw [HRR.out]; simp [h1, h2, show id ≤ 1099511627776 by omega, show no ≤ 281474976710656 by omega, h9])
          go_enter Tryz.func41, Tryz.ntmps41
          go_wp2_with fail
          refine (HN1.out _).mono ?_
          rintro e w1 ⟨rfl, rfl⟩
          go_wp2_with fail
          refine (HN2.out _).mono ?_
          rintro e w1 ⟨rfl, rfl⟩
          go_wp2_with fail
          with_reducible refine HAL.out.mono ?_
          rintro e w1 ⟨rfl, hb2⟩
          have hbz := later_ HB.out.1 hb2
          have hx2 := HB.out.2.below hb2
          have c0 := hx2.cell 0
          have c5 := hx2.cell 5
          simp only [gE0, gE1] at c0 c5
          have HBZ := Lib.hid hbz
          clear hx2 HB HAL hb2 hbz HB1
          go_wp2_with fail
          refine (HWI.out _).mono ?_
          rintro e w2 ⟨rfl, rfl⟩
          go_wp2
          go_ret
          exact ⟨ret_bo HZ.out.symm, HBZ.out⟩
         | true =>
          have HZ : Hid (r = true) := Lib.hid (by rw [HRR.out]; simp [h1, h2, show id ≤ 1099511627776 by omega, show no ≤ 281474976710656 by omega, h9])
          go_enter Tryz.func41, Tryz.ntmps41
          go_wp2_with fail
          refine (HN1.out _).mono ?_
          rintro e w1 ⟨rfl, rfl⟩
          go_wp2_with fail
          refine (HN2.out _).mono ?_
          rintro e w1 ⟨rfl, rfl⟩
          go_wp2_with fail
          with_reducible refine HAL.out.mono ?_
          rintro e w1 ⟨rfl, hb2⟩
          have hbz := later_ HB.out.1 hb2
          have hx2 := HB.out.2.below hb2
          have c0 := hx2.cell 0
          have c5 := hx2.cell 5
          simp only [gE0, gE1] at c0 c5
          have HBZ := Lib.hid hbz
          clear hx2 HB HAL hb2 hbz HB1
          go_wp2_with fail
          refine (HWI.out _).mono ?_
          rintro e w2 ⟨rfl, rfl⟩
          go_wp2
          go_ret
          exact ⟨ret_bo HZ.out.symm, HBZ.out⟩
      ·have HZ : Hid (r = false) := Lib.hid (by rw [HRR.out]; simp [h1, h2, show id ≤ 1099511627776 by omega, show ¬ no ≤ 281474976710656 by omega])
       go_enter Tryz.func41, Tryz.ntmps41
       go_wp2_with fail
       refine (HN1.out _).mono ?_
       rintro e w1 ⟨rfl, rfl⟩
       go_wp2_with fail
       refine (HN2.out _).mono ?_
       rintro e w1 ⟨rfl, rfl⟩
       go_wp2
       go_ret
       exact ⟨ret_bo HZ.out.symm, HB1.out⟩
     ·have HZ : Hid (r = false) := Lib.hid (by rw [HRR.out]; simp [h1, h2, show ¬ id ≤ 1099511627776 by omega])
      go_enter Tryz.func41, Tryz.ntmps41
      go_wp2_with fail
      refine (HN1.out _).mono ?_
      rintro e w1 ⟨rfl, rfl⟩
      go_wp2_with fail
      refine (HN2.out _).mono ?_
      rintro e w1 ⟨rfl, rfl⟩
      go_wp2
      go_ret
      exact ⟨ret_bo HZ.out.symm, HB1.out⟩
  ·have HZ : Hid (r = false) := Lib.hid (by rw [HRR.out]; simp [h1, h2])
   go_enter Tryz.func41, Tryz.ntmps41
   go_wp2
   go_ret
   exact ⟨ret_bo HZ.out.symm, HB1.out⟩
 ·have HZ : Hid (r = false) := Lib.hid (by rw [HRR.out]; simp [h1])
  go_enter Tryz.func41, Tryz.ntmps41
  go_wp2
  go_ret
  exact ⟨ret_bo HZ.out.symm, HB1.out⟩
end
section
open Go Go.RowKit Go.ChangeShapes Go.WideShapes Go.Deep Go.Joins
section
variable {H : Type} {enc : TypeId × Value → H} {P : Program} {w : World} {base : Nat} {spare : Nat → Bool} {held : Bool}
theorem trod_six {t : TypeId} {f0 f1 f2 f3 f4 f5 : Field} {fuel : Nat} {cs : List Value} {x : DataW H × List MemPlace} (hs : P.underlying t = some (.struct #[f0, f1, f2, f3, f4, f5])) (hone : oneCellFields P #[f0, f1, f2, f3, f4, f5] = true) (hC : P.cellsOf t = 6)
  (h : DataW.trod enc P w base spare held fuel t cs = some x) :
  ∃ (v0 v1 v2 v3 v4 v5 : Value) (y0 y1 y2 y3 y4 y5 : DataW H × List MemPlace) (n : Nat), cs = [v0, v1, v2, v3, v4, v5] ∧
   DataW.trod enc P w base spare held n f0.type [v0] = some y0 ∧ DataW.trod enc P w base spare held n f1.type [v1] = some y1 ∧ DataW.trod enc P w base spare held n f2.type [v2] = some y2 ∧ DataW.trod enc P w base spare held n f3.type [v3] = some y3 ∧ DataW.trod enc P w base spare held n f4.type [v4] = some y4 ∧ DataW.trod enc P w base spare held n f5.type [v5] = some y5 := by
 obtain ⟨xs, n, _, _, hl, hlen, hg⟩ := DataW.trod_struct hs h
 match cs, hl.trans hC with
 | [c0, c1, c2, c3, c4, c5], _ =>
  obtain ⟨o0, k0⟩ := hone_of hone 0 f0 rfl
  obtain ⟨o1, k1⟩ := hone_of hone 1 f1 rfl
  obtain ⟨o2, k2⟩ := hone_of hone 2 f2 rfl
  obtain ⟨o3, k3⟩ := hone_of hone 3 f3 rfl
  obtain ⟨o4, k4⟩ := hone_of hone 4 f4 rfl
  obtain ⟨o5, k5⟩ := hone_of hone 5 f5 rfl
  match xs, hlen with
  | [y0, y1, y2, y3, y4, y5], _ =>
   exact ⟨c0, c1, c2, c3, c4, c5, y0, y1, y2, y3, y4, y5, n, rfl, by simpa [o0, k0] using hg 0 f0 rfl, by simpa [o1, k1] using hg 1 f1 rfl, by simpa [o2, k2] using hg 2 f2 rfl, by simpa [o3, k3] using hg 3 f3 rfl, by simpa [o4, k4] using hg 4 f4 rfl, by simpa [o5, k5] using hg 5 f5 rfl⟩
theorem trod_op {t : TypeId} {f0 f1 f2 : Field} {fuel : Nat} {cs : List Value} {x : DataW H × List MemPlace} (hs : P.underlying t = some (.struct #[f0, f1, f2])) (ho : (f0.offset == 0 && P.cellsOf f0.type == 1 && f1.offset == 1 && P.cellsOf f1.type == 6) = true) (hC : P.cellsOf t = 8)
  (h : DataW.trod enc P w base spare held fuel t cs = some x) :
  ∃ (v0 v1 v2 v3 v4 v5 v6 v7 : Value) (y0 y1 : DataW H × List MemPlace) (n : Nat), cs = [v0, v1, v2, v3, v4, v5, v6, v7] ∧
   DataW.trod enc P w base spare held n f0.type [v0] = some y0 ∧ DataW.trod enc P w base spare held n f1.type [v1, v2, v3, v4, v5, v6] = some y1 := by
 obtain ⟨xs, n, _, _, hl, hlen, hg⟩ := DataW.trod_struct hs h
 simp only [Bool.and_eq_true, beq_iff_eq] at ho
 obtain ⟨⟨⟨o0, k0⟩, o1⟩, k1⟩ := ho
 match cs, hl.trans hC with
 | [c0, c1, c2, c3, c4, c5, c6, c7], _ =>
  match xs, hlen with
  | [y0, y1, y2], _ =>
   exact ⟨c0, c1, c2, c3, c4, c5, c6, c7, y0, y1, n, rfl, by simpa [o0, k0] using hg 0 f0 rfl, by simpa [o1, k1] using hg 1 f1 rfl⟩
end
theorem items_of {H : Type} {enc : TypeId × Value → H} {W : World} {base : Nat} {spare : Nat → Bool} {held : Bool} {fuel : Nat} {v : Value} {y : DataW H × List MemPlace}
  (hf : DataW.trod enc Tryz.prog W base spare held fuel 24 [v] = some y) :
  ∃ (A : Option Addr) (n c : Nat) (l : List It), v = .slice A n c ∧ n ≤ c ∧ c ≤ maxLen ∧ Row W.heap.size W A n 5 (itc l) ∧ ∀ x ∈ l, x.fit := by
 rcases open_slice_fields Tryz.underlying24 Tryz.underlying27 (by kernel_rfl) (by kernel_rfl) hf with hcs | ⟨a, l, c, m, hcs, hl, hm, hmm, hx⟩
 ·simp at hcs
  subst hcs
  exact ⟨none, 0, 0, [], rfl, Nat.le_refl _, Nat.zero_le _, Row.nil_, fun x hx => by cases hx⟩
 ·simp at hcs
  subst hcs
  have hlm : l ≤ m := by subst hmm; split <;> omega
  have key : ∀ i : Nat, ∃ x : It, x.fit ∧ (i < l → ∀ j v, x.cells[j]? = some v → W.cell? (a.add (i * 5 + j)) = some v) := by
   intro i
   by_cases hi : i < l
   ·obtain ⟨ys, k, hf⟩ := hx i (by omega)
    obtain ⟨v0, y0, h0, _, t0⟩ := hf 0 _ rfl
    obtain ⟨v1, y1, h1, _, t1⟩ := hf 1 _ rfl
    obtain ⟨v2, y2, h2, _, t2⟩ := hf 2 _ rfl
    obtain ⟨v3, y3, h3, _, t3⟩ := hf 3 _ rfl
    obtain ⟨v4, y4, h4, _, t4⟩ := hf 4 _ rfl
    obtain ⟨z0, e0, _, _⟩ := DataW.trod_int Tryz.underlying3 t0
    obtain ⟨z1, e1, _, _⟩ := DataW.trod_int Tryz.underlying3 t1
    obtain ⟨z2, e2, _, w2⟩ := DataW.trod_int Tryz.underlying25 t2
    obtain ⟨z3, e3, _, w3⟩ := DataW.trod_int Tryz.underlying25 t3
    obtain ⟨z4, e4, _, w4⟩ := DataW.trod_int Tryz.underlying2 t4
    simp at e0 e1 e2 e3 e4
    subst e0 e1 e2 e3 e4
    obtain ⟨u2, rfl, b2⟩ := wfu64 w2
    obtain ⟨u3, rfl, b3⟩ := wfu64 w3
    have b4 := wfi64 w4
    refine ⟨⟨z0, z1, u2, u3, z4⟩, ⟨b4.1, Int.lt_of_le_of_lt b4.2 (by decide)⟩, fun _ j v hj => ?_⟩
    match j with
    | 0 => simp [It.cells] at hj; subst hj; exact h0
    | 1 => simp [It.cells] at hj; subst hj; exact h1
    | 2 => simp [It.cells] at hj; subst hj; exact h2
    | 3 => simp [It.cells] at hj; subst hj; exact h3
    | 4 => simp [It.cells] at hj; subst hj; exact h4
    | k + 5 => simp [It.cells] at hj
   ·exact ⟨⟨0, 0, 0, 0, 0⟩, by unfold It.fit; simp, fun h => absurd h hi⟩
  obtain ⟨f, hf⟩ := Classical.axiomOfChoice key
  refine ⟨some a, l, c, (List.range l).map f, rfl, hl, hm, row_of_items W a l f (fun i hi => (hf i).2 hi), fun x hx => ?_⟩
  obtain ⟨i, _, rfl⟩ := List.mem_map.1 hx
  exact (hf i).1
theorem Mq.val_cells (m : Mq) : m.val = .agg m.cells.toArray := rfl
structure Mq.In (m : Mq) (l : List It) (W : World) : Prop where
 nc : m.n ≤ m.c
 cm : m.c ≤ maxLen
 row : Row W.heap.size W m.A m.n 5 (itc l)
 fit : ∀ x ∈ l, x.fit
theorem msg_of {H : Type} {enc : TypeId × Value → H} {W : World} {base : Nat} {spare : Nat → Bool} {held : Bool} {fuel : Nat} {cs : List Value} {y : DataW H × List MemPlace}
  (hf : DataW.trod enc Tryz.prog W base spare held fuel 47 cs = some y) : ∃ (m : Mq) (l : List It), cs = m.cells ∧ m.In l W := by
 obtain ⟨v0, v1, v2, v3, v4, v5, y0, y1, y2, y3, y4, y5, n, rfl, t0, t1, t2, t3, t4, t5⟩ := trod_six Tryz.underlying47 (by kernel_rfl) (by kernel_rfl) hf
 obtain ⟨z0, e0, _, _⟩ := DataW.trod_int Tryz.underlying3 t0
 obtain ⟨z1, e1, _, _⟩ := DataW.trod_int Tryz.underlying3 t1
 obtain ⟨z2, e2, _, _⟩ := DataW.trod_int Tryz.underlying3 t2
 obtain ⟨z3, e3, _, w3⟩ := DataW.trod_int Tryz.underlying25 t3
 obtain ⟨z4, e4, _, w4⟩ := DataW.trod_int Tryz.underlying25 t4
 obtain ⟨A, n, c, l, rfl, h1, h2, h3, h4⟩ := items_of t5
 simp at e0 e1 e2 e3 e4
 subst e0 e1 e2 e3 e4
 obtain ⟨u3, rfl, b3⟩ := wfu64 w3
 obtain ⟨u4, rfl, b4⟩ := wfu64 w4
 exact ⟨⟨z0, z1, z2, u3, u4, A, n, c⟩, l, rfl, h1, h2, h3, h4⟩
theorem msg_arg {H : Type} {enc : TypeId × Value → H} {W : World} {base b0 : Nat} {r : Reach} {spare : Nat → Bool} {held : Bool} {v : Value} {d : DataW H} {p : List MemPlace}
  (hv : Value.okWide Tryz.prog W r b0 47 v) (h : DataW.Trod enc Tryz.prog W base spare held 47 v d p) : ∃ (m : Mq) (l : List It), v = m.val ∧ m.In l W := by
 obtain ⟨cs, rfl, hsz⟩ := okWide_struct Tryz.underlying47 hv
 obtain ⟨fuel, hf⟩ := h
 obtain ⟨m, l, h1, h2⟩ := msg_of (cs := cs.toList) hf
 refine ⟨m, l, ?_, h2⟩
 rw [Mq.val_cells, ← h1]
structure Oq where
 k : Int
 m : Mq
 l : List It
def OpsIn (W : World) (A : Option Addr) (n : Nat) (f : Nat → Oq) : Prop := ∀ i, i < n → ∃ a, A = some a ∧ a.block < W.heap.size ∧ W.cell? (a.add (i * 8)) = some (.int .i64 (f i).k) ∧ (∀ (j : Nat) v, (f i).m.cells[j]? = some v → W.cell? (a.add (i * 8 + (1 + j))) = some v) ∧ (f i).m.In (f i).l W
theorem ops_arg {H : Type} {enc : TypeId × Value → H} {W : World} {base b0 : Nat} {r : Reach} {spare : Nat → Bool} {held : Bool} {v : Value} {d : DataW H} {p : List MemPlace}
  (hv : Value.okWide Tryz.prog W r b0 60 v) (h : DataW.Trod enc Tryz.prog W base spare held 60 v d p) :
  ∃ (A : Option Addr) (n c : Nat) (f : Nat → Oq), v = .slice A n c ∧ n ≤ c ∧ c ≤ maxLen ∧ OpsIn W A n f := by
 obtain ⟨fuel, hf⟩ := h
 obtain ⟨a, n, c, rfl⟩ := okWide_slice Tryz.underlying60 hv
 have hc : (Value.slice a n c).cells.toList = [.slice a n c] := rfl
 rw [hc] at hf
 rcases open_slice Tryz.underlying60 hf with ⟨hcs, _⟩ | ⟨a, l, c, m, n', D, Pl, hcs, hb, hl, hm, hmm, hx, hi⟩
 ·simp at hcs
  obtain ⟨rfl, rfl, rfl⟩ := hcs
  exact ⟨none, 0, 0, fun _ => ⟨0, ⟨0, 0, 0, 0, 0, none, 0, 0⟩, []⟩, rfl, Nat.le_refl _, Nat.zero_le _, fun i hi => by omega⟩
 ·simp at hcs
  obtain ⟨rfl, rfl, rfl⟩ := hcs
  have hlm : n ≤ m := by subst hmm; split <;> omega
  have h8 : Tryz.prog.cellsOf 63 = 8 := by kernel_rfl
  have key : ∀ i : Nat, ∃ o : Oq, (i < n → ∃ a', some a = some a' ∧ a'.block < W.heap.size ∧ W.cell? (a'.add (i * 8)) = some (.int .i64 o.k) ∧ (∀ (j : Nat) v, o.m.cells[j]? = some v → W.cell? (a'.add (i * 8 + (1 + j))) = some v) ∧ o.m.In o.l W) := by
   intro i
   by_cases hin : i < n
   ·obtain ⟨cs', hc, ht⟩ := hi i (by omega)
    rw [h8] at hc
    obtain ⟨v0, v1, v2, v3, v4, v5, v6, v7, y0, y1, k, rfl, t0, t1⟩ := trod_op Tryz.underlying63 (by kernel_rfl) h8 ht
    obtain ⟨z0, e0, _, _⟩ := DataW.trod_int Tryz.underlying3 t0
    simp at e0
    subst e0
    obtain ⟨mq, lq, h1, h2⟩ := msg_of t1
    obtain ⟨_, hcl, hat⟩ := World.cells?_some hc
    have hc0 := hat 0 (by omega)
    refine ⟨⟨z0, mq, lq⟩, fun _ => ⟨a, rfl, ?_, ?_, fun j v hj => ?_, h2⟩⟩
    ·have hbl := World.block_lt_of_cell? W _ (hc0.trans rfl)
     rw [add_block, add_block] at hbl
     exact hbl
    ·exact hc0.trans rfl
    ·simp only at hj
     rw [← h1] at hj
     have hj6 : j < 6 := by
      have := (List.getElem?_eq_some_iff.1 hj).1
      simpa using this
     have hcj := hat (1 + j) (by omega)
     rw [← Go.Deep.add_add, hcj, Nat.add_comm 1 j]
     rw [gE1]
     match j, hj6 with
     | 0, _ => exact hj
     | 1, _ => exact hj
     | 2, _ => exact hj
     | 3, _ => exact hj
     | 4, _ => exact hj
     | 5, _ => exact hj
   ·exact ⟨⟨0, ⟨0, 0, 0, 0, 0, none, 0, 0⟩, []⟩, fun h => absurd h hin⟩
  obtain ⟨f, hf⟩ := Classical.axiomOfChoice key
  exact ⟨some a, n, c, f, rfl, hl, hm, fun i hi => hf i hi⟩
end
section
open Go Go.RowKit Go.Lib Go.Shelf
variable {w w1 w2 : World} {X X1 X2 : Dw} {S S1 S2 : Sd} {Y Y1 Y2 : Yw} {V V1 V2 : Sv} {nb now grace : Nat} {ni : Int}
def Mt.fills (m : Mt) (f : Nat) : Bool := f == m.floor && decide (m.cert < f)
theorem ffill_any (m : Mt) (f : Nat) (w : World) :
  Calls Tryz.prog 112 #[m.val, .int .u64 (f : Int)] w fun e w' => e = .returned (.bool (m.fills f)) ∧ Below w.heap.size w w' := by
 have hb1 := (Below.refl w.heap.size w).alloc (Nat.le_refl _) (.cells #[.int .u64 (m.floor : Int), .int .u64 (m.cert : Int), .int .u64 (m.at_ : Int), .int .u64 (m.lease : Int)] 32)
 obtain ⟨fl, ce, a_, le⟩ := m
 obtain ⟨r, hr⟩ : ∃ r, r = Mt.fills ⟨fl, ce, a_, le⟩ f := ⟨_, rfl⟩
 rw [← hr]
 unfold Mt.fills at hr
 unfold Mt.val
 simp only at hr hb1 ⊢
 by_cases h1 : f = fl
 ·subst h1
  by_cases h2 : (ce : Int) < (f : Int)
  ·have HB := Lib.hid (hr.trans (show _ = true by simp; omega))
   clear hr
   go_enter Tryz.func112, Tryz.ntmps112
   go_wp2
   go_ret
   exact ⟨ret_bo HB.out.symm, hb1⟩
  ·have HB := Lib.hid (hr.trans (show _ = false by simp; omega))
   clear hr
   go_enter Tryz.func112, Tryz.ntmps112
   go_wp2
   go_ret
   exact ⟨ret_bo HB.out.symm, hb1⟩
 ·have e1 : ((f : Int) == (fl : Int)) = false := by rw [beq_eq_false_iff_ne]; omega
  have HB := Lib.hid (hr.trans (show _ = false by simp [h1]))
  clear hr
  go_enter Tryz.func112, Tryz.ntmps112
  go_wp2
  go_ret
  exact ⟨ret_bo HB.out.symm, hb1⟩
theorem feven_any (m : Mt) (f now : Nat) (w : World) (hnow : now ≤ 281474976710656) :
  Calls Tryz.prog 50 #[m.val, .int .u64 (f : Int), .int .u64 (now : Int)] w fun e w' => e = .returned (if f ≤ m.cert ∨ m.floor < f then .tuple #[.agg #[.int .u64 0, .int .u64 0, .int .u64 0, .int .u64 0], .bool false] else .tuple #[Mt.val { m with cert := f, at_ := now }, .bool true]) ∧ Below w.heap.size w w' := by
 have hb2 : ∀ o1 o2, Below w.heap.size w ((w.alloc o1).alloc o2) := fun o1 o2 => ((Below.refl w.heap.size w).alloc (Nat.le_refl _) o1).alloc (by simp) o2
 unfold Mt.val
 simp only
 obtain ⟨fl, ce, a_, le⟩ := m
 simp only
 have hmin : min (now : Int) 281474976710656 = (now : Int) := by omega
 by_cases h1 : (f : Int) ≤ (ce : Int)
 ·rw [if_pos (.inl (by omega))]
  have HB := Lib.hid hb2
  clear hb2
  go_enter Tryz.func50, Tryz.ntmps50
  go_wp2
  exact bodyPost_ret (v := .tuple #[.agg #[.int .u64 0, .int .u64 0, .int .u64 0, .int .u64 0], .bool false]) (by simp [results, go_sem]) rfl ⟨rfl, HB.out _ _⟩
 by_cases h2 : (fl : Int) < (f : Int)
 ·rw [if_pos (.inr (by omega))]
  have HB := Lib.hid hb2
  clear hb2
  go_enter Tryz.func50, Tryz.ntmps50
  go_wp2
  exact bodyPost_ret (v := .tuple #[.agg #[.int .u64 0, .int .u64 0, .int .u64 0, .int .u64 0], .bool false]) (by simp [results, go_sem]) rfl ⟨rfl, HB.out _ _⟩
 rw [if_neg (by omega)]
 have HB := Lib.hid hb2
 clear hb2
 go_enter Tryz.func50, Tryz.ntmps50
 go_wp2
 exact bodyPost_ret (v := .tuple #[.agg #[.int .u64 (fl : Int), .int .u64 (f : Int), .int .u64 (now : Int), .int .u64 (le : Int)], .bool true]) (by simp [results, go_sem]) rfl ⟨rfl, HB.out _ _⟩
def St.fill (S : Sd) (V : Sv) (f : Nat) (l : List It) : Sd × Sv × Bool := if (St.meta_ V).fills f = true then St.last S V (upto l f) else (S, V, decide (f = V.M.v.cert))
theorem nfill_any (h : NdAt w X S Y V nb ni now grace) (hN : Nrm V) (k frm to_ : Int) (id no : Nat) (A : Option Addr) (n c : Nat) (l : List It) (hn : n ≤ 1000) (hr : Row w.heap.size w A n 5 (itc l)) (hfit : ∀ x ∈ l, x.fit) :
  Calls Tryz.prog 49 #[.pointer (some ⟨nb, 0, none⟩), (St.meta_ V).val, .agg #[.int .i64 k, .int .i64 frm, .int .i64 to_, .int .u64 (id : Int), .int .u64 (no : Int), .slice A n c]] w fun e w' => e = .returned (.bool (St.fill S V no l).2.2) ∧ NdUpd X Y w w' (St.fill S V no l).1 (St.fill S V no l).2.1 nb ni now grace := by
 obtain ⟨mt, hmt⟩ : ∃ mt, mt = St.meta_ V := ⟨_, rfl⟩
 obtain ⟨R, hR⟩ : ∃ R, R = St.fill S V no l := ⟨_, rfl⟩
 rw [← hR, ← hmt]
 unfold St.fill at hR
 rw [← hmt, show V.M.v.cert = mt.cert by rw [hmt]; rfl] at hR
 have hb2 := ((Below.refl w.heap.size w).alloc (Nat.le_refl _) (.cells #[.int .u64 (mt.floor : Int), .int .u64 (mt.cert : Int), .int .u64 (mt.at_ : Int), .int .u64 (mt.lease : Int)] 32)).alloc (by simp) (.cells #[.int .i64 k, .int .i64 frm, .int .i64 to_, .int .u64 (id : Int), .int .u64 (no : Int), .slice A n c] 47)
 have hx0 := (BoxO.new w #[.int .u64 (mt.floor : Int), .int .u64 (mt.cert : Int), .int .u64 (mt.at_ : Int), .int .u64 (mt.lease : Int)] 32).alloc (.cells #[.int .i64 k, .int .i64 frm, .int .i64 to_, .int .u64 (id : Int), .int .u64 (no : Int), .slice A n c] 47)
 have hx1 := BoxO.new (w.alloc (.cells #[.int .u64 (mt.floor : Int), .int .u64 (mt.cert : Int), .int .u64 (mt.at_ : Int), .int .u64 (mt.lease : Int)] 32)) #[.int .i64 k, .int .i64 frm, .int .i64 to_, .int .u64 (id : Int), .int .u64 (no : Int), .slice A n c] 47
 rw [World.size_alloc] at hx1
 obtain ⟨W, hW⟩ : ∃ W, W = (w.alloc (.cells #[.int .u64 (mt.floor : Int), .int .u64 (mt.cert : Int), .int .u64 (mt.at_ : Int), .int .u64 (mt.lease : Int)] 32)).alloc (.cells #[.int .i64 k, .int .i64 frm, .int .i64 to_, .int .u64 (id : Int), .int .u64 (no : Int), .slice A n c] 47) := ⟨_, rfl⟩
 rw [← hW] at hb2 hx0 hx1
 have hff := ffill_any mt no W
 obtain ⟨b, hb⟩ : ∃ b, b = mt.fills no := ⟨_, rfl⟩
 rw [← hb] at hff hR
 unfold Mt.val at hff ⊢
 have HFF := Lib.hid hff
 have HB := Lib.hid hb2
 have HX := Lib.hid (And.intro hx0 hx1)
 have HH := Lib.hid h
 have HROW := Lib.hid hr
 clear hff hb2 hx0 hx1 h hr hmt hb
 go_enter Tryz.func49, Tryz.ntmps49
 go_wp2_with fail
 rw [← hW]
 clear hW
 with_reducible refine HFF.out.mono ?_
 rintro e w2 ⟨rfl, hb2⟩
 have HB2 := Lib.hid (HB.out.trans (hb2.mono HB.out.size))
 have q1 := (HX.out.1.below hb2).cell 1
 have p4 := (HX.out.2.below hb2).cell 4
 have p5 := (HX.out.2.below hb2).cell 5
 simp only [gE0, gE1] at q1 p4 p5
 clear hb2 HFF
 cases b with
 | false =>
  rw [if_neg (by simp)] at hR
  have hbo : ((no : Int) == (mt.cert : Int)) = decide (no = mt.cert) := by
   by_cases hq : no = mt.cert
   ·simp [hq]
   ·rw [decide_eq_false hq, beq_eq_false_iff_ne]; omega
  obtain ⟨d, hd⟩ : ∃ d, d = decide (no = mt.cert) := ⟨_, rfl⟩
  rw [← hd] at hR hbo
  have HZ : Hid (R.2.2 = d ∧ NdUpd X Y w w2 R.1 R.2.1 nb ni now grace) := Lib.hid (by
   rw [hR]
   exact ⟨rfl, NdUpd.same HH.out HB2.out⟩)
  clear hR hd
  go_wp2
  go_ret
  exact ⟨ret_bo HZ.out.1.symm, HZ.out.2⟩
 | true =>
  rw [if_pos rfl] at hR
  have hup := supto_any A n c l no w2 (by omega) ((HROW.out.below HB2.out).up HB2.out.size)
  have HUP := Lib.hid hup
  have HR := Lib.hid hR
  clear hup hR
  go_wp2_with fail
  with_reducible refine HUP.out.mono ?_
  rintro e w3 ⟨A3, n3, rfl, hn3, hi3, hb3⟩
  have h3 := HH.out.below (later_ HB2.out hb3)
  have hlx := HH.out.at_.lt
  have hl3 := List.length_filter_le (fun a : It => decide (a.v ≤ no)) l
  have hrl := HROW.out.itlen
  have hla := nlast_any h3 hN A3 n3 n3 (upto l no) (by unfold upto at hn3; omega) (Nat.le_refl _) hi3.row (fun a ha hm => by
   have := hi3.low a ha
   have := hlx _ hm
   have := HB2.out.size
   omega) (fun x hx => hfit x (List.mem_filter.1 hx).1)
  rw [← HR.out] at hla
  have HLA := Lib.hid hla
  have HB3 := Lib.hid (later_ HB2.out hb3)
  clear hla h3 hlx hl3 hrl hi3 hb3 hn3 HUP
  go_wp2_with fail
  with_reducible refine HLA.out.mono ?_
  rintro e w4 ⟨rfl, hu⟩
  have HZ := Lib.hid (hu.low (B := 0) HB3.out)
  clear hu
  go_wp2
  go_ret
  exact ⟨rfl, HZ.out⟩
end
end Go.Proofs.YtdkjoigpahafmaaGreatDoor
