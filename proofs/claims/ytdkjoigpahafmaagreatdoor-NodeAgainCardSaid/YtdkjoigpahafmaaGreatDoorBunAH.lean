/- Texts SkipD, StateG, StateH in one. No conditions. -/
import Derived.Test.YtdkjoigpahafmaaGreatDoorBunAA
import Derived.Test.YtdkjoigpahafmaaGreatDoorBunAE
import Derived.Test.YtdkjoigpahafmaaGreatDoorBunAG

set_option linter.unusedSimpArgs false
set_option linter.unusedVariables false
set_option maxRecDepth 100000
set_option maxHeartbeats 16000000
namespace Go.Proofs.YtdkjoigpahafmaaGreatDoor
section
open Go Go.RowKit Go.Lib
def It.zero : It := ⟨0, 0, 0, 0, 0⟩
theorem snew_any (w : World) : Calls Tryz.prog 133 #[] w fun e w' => ∃ L ns, e = .returned (.pointer (some ⟨L, 0, none⟩)) ∧ SkAt w' L ns ∧ its ns = [] ∧ Below w.heap.size w w' ∧ ∀ g ∈ skF L ns, w.heap.size ≤ g := by
 have ht := fun W => tower_any It.zero 6 W (by omega) (by omega)
 unfold It.val at ht
 have HT := Lib.hid ht
 clear ht
 go_enter Tryz.func133, Tryz.ntmps133
 go_wp2_with fail
 refine (HT.out _).mono ?_
 rintro e w1 ⟨b, tb, rfl, h1, h2, h3, h4, h5, h6⟩
 go_wp2
 go_ret
 have e1 := h1.alloc (.cells #[.pointer (some ⟨b, 0, none⟩), .int .i64 0] 243)
 have e2 := h2.alloc (.cells #[.pointer (some ⟨b, 0, none⟩), .int .i64 0] 243)
 have hs := h6.size
 have lb := h1.lt
 have lt := h2.lt
 refine ⟨w1.heap.size, [⟨It.zero, b, tb, 6, 6⟩], rfl, ⟨⟨fun n hn => ?_, fun i n hi => ?_, fun n hn => ?_, ?_⟩, ⟨_, [], rfl, rfl, BoxO.new _ _ _⟩, ?_, fun n hn => ?_, List.Pairwise.nil⟩, rfl, h6.alloc hs _, fun g hg => ?_⟩
 ·rw [List.mem_singleton.1 hn]
  exact e1
 ·cases i with
  | zero =>
   simp only [gE0, Option.some.injEq] at hi
   subst hi
   exact ⟨_, e2, rfl, fun l hl => by rw [List.getElem?_replicate, if_pos hl]; rfl⟩
  | succ i => simp at hi
 ·rw [List.mem_singleton.1 hn]
  exact ⟨Nat.le_refl _, Nat.le_refl _⟩
 ·simpa using h3
 ·simp
  omega
 ·rw [List.mem_singleton.1 hn]
  exact (by omega : 1 ≤ 6)
 ·simp [skF] at hg
  omega
def PutPost (w : World) (L : Nat) (ns : List Nd) (R : List It) (e : Ending) (w' : World) : Prop := ∃ bb ns', e = .returned (.tuple #[.bool bb, .int .i64 0]) ∧ SkAt w' L ns' ∧ its ns' = R ∧ Chg (skF L ns) w w' ∧ ∀ g ∈ skF L ns', g ∈ skF L ns ∨ w.heap.size ≤ g
theorem nxb_low {ns : List Nd} (h : ∀ n ∈ ns, 1 ≤ n.h) (p : Nat) : nxb 0 (ns.drop p) = (ns[p]?).map (·.b) := by
 have e0 : (ns.drop p)[0]? = ns[p]? := by simp
 cases e : ns.drop p with
 | nil => rw [e] at e0; rw [← e0]; rfl
 | cons a r =>
  rw [e] at e0
  have ha : a ∈ ns := List.mem_of_mem_drop (by rw [e]; simp : a ∈ ns.drop p)
  have := h a ha
  rw [← e0]
  unfold nxb nxt
  have h0 : decide (0 < a.h) = true := decide_eq_true (by omega)
  simp [h0]
theorem Pred.insert {A R : List Nd} {n : Nd} {l q j : Nat} (h : Pred (A ++ R) l q j) (hq : q = A.length) : Pred (A ++ n :: R) l A.length j := by
 subst hq
 have e : ∀ i, i < A.length → (A ++ n :: R)[i]? = (A ++ R)[i]? := fun i hi => by rw [List.getElem?_append_left hi, List.getElem?_append_left hi]
 exact ⟨h.lt, by obtain ⟨m, h1, h2⟩ := h.on; exact ⟨m, (e j h.lt).trans h1, h2⟩, fun i m h1 h2 h3 => h.last i m h1 h2 ((e i h2).symm.trans h3)⟩
theorem six_at (f : Nat → Value) {k : Nat} (hk : k < 6) : [f 0, f 1, f 2, f 3, f 4, f 5][k]? = some (f k) := by
 have e : k = 0 ∨ k = 1 ∨ k = 2 ∨ k = 3 ∨ k = 4 ∨ k = 5 := by omega
 rcases e with rfl | rfl | rfl | rfl | rfl | rfl <;> rfl
theorem skput_any (L h : Nat) (ns : List Nd) (x : It) (w : World) (hs : SkAt w L ns) (hk : x.ok = true) (h1 : 1 ≤ h) (h6 : h ≤ 6) (hnl : ns.length ≤ 1000000) :
  Calls Tryz.prog 87 #[.pointer (some ⟨L, 0, none⟩), x.val, .int .i64 (h : Int)] w (PutPost w L ns (wput (its ns) x)) := by
 have hok := fun W => iok_any x W
 simp only [hk] at hok
 have hbf := fun W (hW : Below w.heap.size w W) => before_any L (pos (its ns) x + 1) ns x W (hs.below hW) rfl
 have hlt := hs.lt
 unfold It.val at hok hbf
 have hb1 : (1 : Int) ≤ (h : Int) := by omega
 have hb6 : (h : Int) ≤ 6 := by omega
 have hb2 : ((h : Int) < 1) = False := eq_false (by omega)
 have hb7 : (6 < (h : Int)) = False := eq_false (by omega)
 have hW1 := (Below.refl w.heap.size w).alloc (Nat.le_refl _) (.cells #[.int .i64 x.s, .int .i64 x.k, .int .u64 (x.t : Int), .int .u64 (x.v : Int), .int .i64 x.x] 27)
 have hbx : BoxO (w.alloc (.cells #[.int .i64 x.s, .int .i64 x.k, .int .u64 (x.t : Int), .int .u64 (x.v : Int), .int .i64 x.x] 27)) 27 w.heap.size x.cells := BoxO.new w #[.int .i64 x.s, .int .i64 x.k, .int .u64 (x.t : Int), .int .u64 (x.v : Int), .int .i64 x.x] 27
 generalize hV : w.alloc (.cells #[.int .i64 x.s, .int .i64 x.k, .int .u64 (x.t : Int), .int .u64 (x.v : Int), .int .i64 x.x] 27) = V at *
 have b0 := hbx.cell 0
 have b1 := hbx.cell 1
 have b2 := hbx.cell 2
 have b3 := hbx.cell 3
 have b4 := hbx.cell 4
 simp only [It.cells, gE0, gE1] at b0 b1 b2 b3 b4
 have HOK := Lib.hid hok
 have HBF := Lib.hid hbf
 have HW1 := Lib.hid hW1
 have HBX := Lib.hid hbx
 have HLT := Lib.hid hlt
 clear hok hbf hbx hW1 hlt
 unfold It.val
 go_enter Tryz.func87, Tryz.ntmps87
 go_wp2_with fail
 refine (HOK.out _).mono ?_
 rintro e w2 ⟨rfl, hb2⟩
 have hbx2 := HBX.out.below hb2
 have b0 := hbx2.cell 0
 have b1 := hbx2.cell 1
 have b2 := hbx2.cell 2
 have b3 := hbx2.cell 3
 have b4 := hbx2.cell 4
 simp only [It.cells, gE0, gE1] at b0 b1 b2 b3 b4
 have hW2 := HW1.out.trans (hb2.mono HW1.out.size)
 have HW2 := Lib.hid hW2
 have HBX2 := Lib.hid hbx2
 clear hb2 hbx2 hW2 HOK hV HW1 HBX
 go_wp2_with fail
 refine (HBF.out _ HW2.out).mono ?_
 rintro e w3 ⟨J, hJ, rfl, hb3⟩
 have hW3 := HW2.out.trans (hb3.mono HW2.out.size)
 have hbx3 := HBX2.out.below hb3
 have hbo := BoxO.new w3 #[.pointer none, .pointer none, .pointer none, .pointer none, .pointer none, .pointer none] 230
 have hW4 := hW3.alloc hW3.size (.cells #[.pointer none, .pointer none, .pointer none, .pointer none, .pointer none, .pointer none] 230)
 have hbx4 := hbx3.alloc (.cells #[.pointer none, .pointer none, .pointer none, .pointer none, .pointer none, .pointer none] 230)
 generalize hU : w3.alloc (.cells #[.pointer none, .pointer none, .pointer none, .pointer none, .pointer none, .pointer none] 230) = U at *
 have hcc : Chg [w3.heap.size] U ((((((U.setCell ⟨w3.heap.size, 0, none⟩ (.pointer (some ⟨bk ns (J 0), 0, none⟩))).setCell ⟨w3.heap.size, 1, none⟩ (.pointer (some ⟨bk ns (J 1), 0, none⟩))).setCell ⟨w3.heap.size, 2, none⟩ (.pointer (some ⟨bk ns (J 2), 0, none⟩))).setCell ⟨w3.heap.size, 3, none⟩ (.pointer (some ⟨bk ns (J 3), 0, none⟩))).setCell ⟨w3.heap.size, 4, none⟩ (.pointer (some ⟨bk ns (J 4), 0, none⟩))).setCell ⟨w3.heap.size, 5, none⟩ (.pointer (some ⟨bk ns (J 5), 0, none⟩))) := ((((((Chg.refl _ U).setCell _ (.inl (by simp))).setCell _ (.inl (by simp))).setCell _ (.inl (by simp))).setCell _ (.inl (by simp))).setCell _ (.inl (by simp))).setCell _ (.inl (by simp))
 have hbs := (((((hbo.store 0 (.pointer (some ⟨bk ns (J 0), 0, none⟩))).store 1 (.pointer (some ⟨bk ns (J 1), 0, none⟩))).store 2 (.pointer (some ⟨bk ns (J 2), 0, none⟩))).store 3 (.pointer (some ⟨bk ns (J 3), 0, none⟩))).store 4 (.pointer (some ⟨bk ns (J 4), 0, none⟩))).store 5 (.pointer (some ⟨bk ns (J 5), 0, none⟩))
 simp only [List.set_cons_zero, List.set_cons_succ] at hbs
 have HP := Lib.hid hbs
 have HCC := Lib.hid hcc
 have o0 := hbo.cell 0
 have o1 := hbo.cell 1
 have o2 := hbo.cell 2
 have o3 := hbo.cell 3
 have o4 := hbo.cell 4
 have o5 := hbo.cell 5
 have f0 := hbo.free 0
 have f1 := hbo.free 1
 have f2 := hbo.free 2
 have f3 := hbo.free 3
 have f4 := hbo.free 4
 have f5 := hbo.free 5
 simp only [gE0, gE1] at o0 o1 o2 o3 o4 o5
 have hs4 := hs.below hW4
 have hg8 : ∀ g ∈ skF L ns, g ∉ [w3.heap.size] := fun g hg => by have := HLT.out g hg; have := hW3.size; simp; omega
 have hsY := hs4.chg hcc hg8
 have hbxY := hbx4.chg hcc (by have := hbx3.lt; simp; omega)
 have hWY := hW4.trans (hcc.below hW4.size (fun g hg => by rw [List.mem_singleton.1 hg]; exact hW3.size))
 generalize hY : ((((((U.setCell ⟨w3.heap.size, 0, none⟩ (.pointer (some ⟨bk ns (J 0), 0, none⟩))).setCell ⟨w3.heap.size, 1, none⟩ (.pointer (some ⟨bk ns (J 1), 0, none⟩))).setCell ⟨w3.heap.size, 2, none⟩ (.pointer (some ⟨bk ns (J 2), 0, none⟩))).setCell ⟨w3.heap.size, 3, none⟩ (.pointer (some ⟨bk ns (J 3), 0, none⟩))).setCell ⟨w3.heap.size, 4, none⟩ (.pointer (some ⟨bk ns (J 4), 0, none⟩))).setCell ⟨w3.heap.size, 5, none⟩ (.pointer (some ⟨bk ns (J 5), 0, none⟩))) = Y at *
 have y0 := hbs.cell 0
 simp only [gE0] at y0
 obtain ⟨n0, hn0, hn0h⟩ := (hJ 0 (by omega)).on
 have hql : pos (its ns) x + 1 ≤ ns.length := by
  obtain ⟨hd, tl, hns, _⟩ := hs.head
  have h1 := pos_le (its ns) x
  have h2 : (its ns).length + 1 = ns.length := by rw [hns]; simp [its]
  omega
 have hJ0 := (hJ 0 (by omega)).low hql hs.tall
 obtain ⟨n5, ⟨nl, nf⟩, nc, nc6⟩ := hsY.core.look hn0 hn0h
 rw [hJ0] at nl
 rw [← bk_of hn0] at n5
 have hnc : (0 : Int) < (n0.c : Int) := by omega
 have hld := apload_any n0.tb 0 _ Y nl (by have := hsY.core.ptr 0 (J 0 + 1); rwa [hJ0] at this)
 obtain ⟨be, hbe⟩ : ∃ be, be = nxb 0 (ns.drop (pos (its ns) x + 1)) := ⟨_, rfl⟩
 rw [← hbe] at hld
 have HLD := Lib.hid hld
 have HBE := Lib.hid hbe
 have HSY := Lib.hid hsY
 have HBXY := Lib.hid hbxY
 have HWY := Lib.hid hWY
 have HG8 := Lib.hid hW3.size
 have HBS := Lib.hid hbs
 have HJ := Lib.hid hJ
 clear hld hbe hsY hbxY hWY hbs hs4 hcc HP HCC hW4 hbx4 hbx3 hW3 hb3 hbo hn0 hn0h hJ0 nl nf hg8 hJ HW2 HBX2 HBF
 simp only [pv]
 go_wp2_with fail
 refine HLD.out.mono ?_
 rintro e w5 ⟨rfl, rfl⟩
 go_upto_region 5 with (fail)
 have hbe2 := HBE.out.trans (nxb_low hs.tall _)
 have hil : ∀ n3, ns[pos (its ns) x + 1]? = some n3 → ∃ hp : pos (its ns) x < (its ns).length, (its ns)[pos (its ns) x] = n3.x := fun n3 h3 => by
  have := its_get (ns := ns) (pos (its ns) x)
  rw [h3] at this
  obtain ⟨a, b⟩ := List.getElem?_eq_some_iff.1 this
  exact ⟨a, b⟩
 have hin : ns[pos (its ns) x + 1]? = none → ¬ pos (its ns) x < (its ns).length := fun h3 h4 => by
  have := its_get (ns := ns) (pos (its ns) x)
  rw [h3, List.getElem?_eq_getElem h4] at this
  cases this
 obtain ⟨l, hl⟩ : ∃ l, l = its ns := ⟨_, rfl⟩
 have hrs := hs.rises
 rw [← hl] at hbe2 hil hin hrs
 obtain ⟨sm, hsm⟩ : ∃ sm, sm = l.any (fun y => It.same y x) := ⟨_, rfl⟩
 obtain ⟨o3, ho3⟩ : ∃ o3, o3 = ns[pos l x + 1]? := ⟨_, rfl⟩
 rw [← ho3] at hbe2 hil hin
 have HL := Lib.hid hl
 have HO3 := Lib.hid ho3
 have HSM := Lib.hid hsm
 have HIL := Lib.hid hil
 have HIN := Lib.hid hin
 have HRS := Lib.hid hrs
 have HS := Lib.hid hs
 subst hbe2
 clear hl ho3 hsm hil hin hrs hs HLD hY
 go_cut [43] (fun c wx => c = .bool sm ∧ Below w5.heap.size w5 wx)
 case first =>
  cases o3 with
  | none =>
   have hf : sm = false := HSM.out.trans (off_pos HRS.out x (HIN.out rfl))
   simp only [Option.map_none]
   refine wp_region_held_drew (S := fun w' => Below w5.heap.size w5 w') rfl (below_drew (Below.refl _ _)) (fun hSw => ?_)
   refine wpT (i := 0) (v := ?vpn0) ?hpn0 hSw ?kpn0
   case hpn0 => (intro w hSw; skip; go_simp; try (with_reducible rfl))
   go_simp
   refine wpT (i := 1) (v := ?vpn1) ?hpn1 hSw ?kpn1
   case hpn1 => (intro w hSw; skip; go_simp; try (with_reducible rfl))
   go_simp
   refine wpT (i := 2) (v := ?vpn2) ?hpn2 hSw ?kpn2
   case hpn2 => (intro w hSw; skip; go_simp; try (with_reducible rfl))
   go_simp
   refine wpT0 (i := 3) hSw ?_
   go_simp
   refine wpT0 (i := 4) hSw ?_
   go_simp
   refine wpT0 (i := 5) hSw ?_
   go_simp
   refine wpT0 (i := 6) hSw ?_
   go_simp
   refine wpT0 (i := 7) hSw ?_
   go_simp
   refine wpT0 (i := 8) hSw ?_
   go_simp
   refine wpT (i := 9) (v := ?vpn9) ?hpn9 hSw ?kpn9
   case hpn9 => (intro w hSw; skip; go_simp; try (with_reducible rfl))
   go_simp
   refine wpAnyH_done (by kernel_rfl) ?_ _
   go_wp2_with fail
   go_meet
   exact ⟨by rw [hf], hSw⟩
  | some n3 =>
   obtain ⟨hp, hx3⟩ := HIL.out n3 rfl
   have hss := fun W => isame_any n3.x x W
   have hat := at_pos HRS.out x hp
   rw [hx3] at hat
   simp only [hat, ← HSM.out] at hss
   have hnd := HSY.out.core.node n3 (List.mem_of_getElem? (by rw [HL.out] at HO3; exact HO3.out.symm))
   generalize n3.x = y at *
   have hkc : ∀ w', Below w5.heap.size w5 w' → (w'.cell? ⟨n3.b, 0, none⟩ = some (.int .i64 y.s) ∧ w'.cell? ⟨n3.b, 1, none⟩ = some (.int .i64 y.k) ∧ w'.cell? ⟨n3.b, 2, none⟩ = some (.int .u64 (y.t : Int)) ∧ w'.cell? ⟨n3.b, 3, none⟩ = some (.int .u64 (y.v : Int)) ∧ w'.cell? ⟨n3.b, 4, none⟩ = some (.int .i64 y.x)) ∧ (w'.cell? ⟨w.heap.size, 0, none⟩ = some (.int .i64 x.s) ∧ w'.cell? ⟨w.heap.size, 1, none⟩ = some (.int .i64 x.k) ∧ w'.cell? ⟨w.heap.size, 2, none⟩ = some (.int .u64 (x.t : Int)) ∧ w'.cell? ⟨w.heap.size, 3, none⟩ = some (.int .u64 (x.v : Int)) ∧ w'.cell? ⟨w.heap.size, 4, none⟩ = some (.int .i64 x.x)) := fun w' hb => by
    have e1 := hnd.below hb
    have e2 := HBXY.out.below hb
    exact ⟨⟨e1.cell 0, e1.cell 1, e1.cell 2, e1.cell 3, e1.cell 4⟩, e2.cell 0, e2.cell 1, e2.cell 2, e2.cell 3, e2.cell 4⟩
   unfold It.val at hss
   have HSS := Lib.hid hss
   have KC := Lib.hid hkc
   clear hss hkc hnd hat hx3 hp
   simp only [Option.map_some]
   refine wp_region_held_drew (S := fun w' => Below w5.heap.size w5 w') rfl (below_drew (Below.refl _ _)) (fun hSw => ?_)
   refine wpT (i := 0) (v := ?vps0) ?hps0 hSw ?kps0
   case hps0 => (intro w hSw; (obtain ⟨⟨y0, y1, y2, y3, y4⟩, x0, x1, x2, x3, x4⟩ := KC.out w hSw); go_simp; try (with_reducible rfl))
   go_simp
   refine wpT (i := 1) (v := ?vps1) ?hps1 hSw ?kps1
   case hps1 => (intro w hSw; (obtain ⟨⟨y0, y1, y2, y3, y4⟩, x0, x1, x2, x3, x4⟩ := KC.out w hSw); go_simp; try (with_reducible rfl))
   go_simp
   refine wpT (i := 2) (v := ?vps2) ?hps2 hSw ?kps2
   case hps2 => (intro w hSw; (obtain ⟨⟨y0, y1, y2, y3, y4⟩, x0, x1, x2, x3, x4⟩ := KC.out w hSw); go_simp; try (with_reducible rfl))
   go_simp
   refine wpT (i := 3) (v := ?vps3) ?hps3 hSw ?kps3
   case hps3 => (intro w hSw; (obtain ⟨⟨y0, y1, y2, y3, y4⟩, x0, x1, x2, x3, x4⟩ := KC.out w hSw); go_simp; try (with_reducible rfl))
   go_simp
   refine wpT (i := 4) (v := ?vps4) ?hps4 hSw ?kps4
   case hps4 => (intro w hSw; (obtain ⟨⟨y0, y1, y2, y3, y4⟩, x0, x1, x2, x3, x4⟩ := KC.out w hSw); go_simp; try (with_reducible rfl))
   go_simp
   refine wpT (i := 5) (v := ?vps5) ?hps5 hSw ?kps5
   case hps5 => (intro w hSw; (obtain ⟨⟨y0, y1, y2, y3, y4⟩, x0, x1, x2, x3, x4⟩ := KC.out w hSw); go_simp; try (with_reducible rfl))
   go_simp
   refine wpT (i := 6) (v := ?vps6) ?hps6 hSw ?kps6
   case hps6 => (intro w hSw; (obtain ⟨⟨y0, y1, y2, y3, y4⟩, x0, x1, x2, x3, x4⟩ := KC.out w hSw); go_simp; try (with_reducible rfl))
   go_simp
   refine wpT (i := 7) (v := ?vps7) ?hps7 hSw ?kps7
   case hps7 => (intro w hSw; (obtain ⟨⟨y0, y1, y2, y3, y4⟩, x0, x1, x2, x3, x4⟩ := KC.out w hSw); go_simp; try (with_reducible rfl))
   go_simp
   refine wpAnyH_ready (rs := [8]) (by kernel_rfl) (by simp) ?_
   refine AllReadyH.cons rfl (fun K hK => ?_) AllReadyH.nil
   go_simp
   with_reducible refine (HSS.out _).mono ?_
   rintro e w6 ⟨rfl, hb6⟩
   go_simp
   refine hK.out _ _ (hSw.trans (hb6.mono hSw.size)) (fun hSn => ?_)
   clear hK K hSw
   have hSw := hSn
   clear hSn
   go_simp
   refine wpT (i := 9) (v := ?vps9) ?hps9 hSw ?kps9
   case hps9 => (intro w hSw; (obtain ⟨⟨y0, y1, y2, y3, y4⟩, x0, x1, x2, x3, x4⟩ := KC.out w hSw); go_simp; try (with_reducible rfl))
   go_simp
   refine wpAnyH_done (by kernel_rfl) ?_ _
   go_wp2_with fail
   go_meet
   exact ⟨rfl, hSw⟩
 case rest =>
  obtain ⟨rfl, hb5⟩ := hcut
  have hsc := HSY.out.below hb5
  have hbxc := HBXY.out.below hb5
  have hWc := HWY.out.trans (hb5.mono HWY.out.size)
  have b0 := hbxc.cell 0
  have b1 := hbxc.cell 1
  have b2 := hbxc.cell 2
  have b3 := hbxc.cell 3
  have b4 := hbxc.cell 4
  simp only [It.cells, gE0, gE1] at b0 b1 b2 b3 b4
  have hbsc := HBS.out.below hb5
  clear HBE y0 n5 hb5 HSY HBXY HWY HBS
  cases sm with
  | true =>
   obtain ⟨n3, rfl⟩ : ∃ n3, o3 = some n3 := by
    cases o3 with
    | none => have := HSM.out.trans (off_pos HRS.out x (HIN.out rfl)); cases this
    | some n3 => exact ⟨n3, rfl⟩
   obtain ⟨hp, hx3⟩ := HIL.out n3 rfl
   have hss : It.same l[pos l x] x = true := (at_pos HRS.out x hp).trans HSM.out.symm
   obtain ⟨hbt, hpt⟩ := add_found HRS.out x hp hss
   rw [hx3] at hbt
   have hn3 := HO3.out.symm
   have hnd := hsc.core.node n3 (List.mem_of_getElem? hn3)
   have hww := fun W => iwins_any x n3.x W
   obtain ⟨y, hy⟩ : ∃ y, y = n3.x := ⟨_, rfl⟩
   rw [← hy] at hww hnd hbt
   have hkc : ∀ w', Below wc.heap.size wc w' → (w'.cell? ⟨n3.b, 0, none⟩ = some (.int .i64 y.s) ∧ w'.cell? ⟨n3.b, 1, none⟩ = some (.int .i64 y.k) ∧ w'.cell? ⟨n3.b, 2, none⟩ = some (.int .u64 (y.t : Int)) ∧ w'.cell? ⟨n3.b, 3, none⟩ = some (.int .u64 (y.v : Int)) ∧ w'.cell? ⟨n3.b, 4, none⟩ = some (.int .i64 y.x)) ∧ (w'.cell? ⟨w.heap.size, 0, none⟩ = some (.int .i64 x.s) ∧ w'.cell? ⟨w.heap.size, 1, none⟩ = some (.int .i64 x.k) ∧ w'.cell? ⟨w.heap.size, 2, none⟩ = some (.int .u64 (x.t : Int)) ∧ w'.cell? ⟨w.heap.size, 3, none⟩ = some (.int .u64 (x.v : Int)) ∧ w'.cell? ⟨w.heap.size, 4, none⟩ = some (.int .i64 x.x)) := fun w' hb => by
    have e1 := hnd.below hb
    have e2 := hbxc.below hb
    exact ⟨⟨e1.cell 0, e1.cell 1, e1.cell 2, e1.cell 3, e1.cell 4⟩, e2.cell 0, e2.cell 1, e2.cell 2, e2.cell 3, e2.cell 4⟩
   unfold It.val at hww
   obtain ⟨wb, hwb⟩ : ∃ wb, wb = x.wins y := ⟨_, rfl⟩
   rw [← hwb] at hww hbt
   have HWW := Lib.hid hww
   have KC := Lib.hid hkc
   have HN3 := Lib.hid hn3
   have HND := Lib.hid hnd
   have HSC := Lib.hid hsc
   have HBT := Lib.hid hbt
   have HPT := Lib.hid hpt
   have HWC := Lib.hid hWc
   have HBXC := Lib.hid hbxc
   have HY := Lib.hid hy
   clear hww hkc hn3 hnd hsc hbt hpt hWc hbxc hy hbsc hss hx3 hp hwb b0 b1 b2 b3 b4
   simp only [Option.map_some]
   go_upto_region 6 with (fail)
   refine wp_region_held_drew (S := fun w' => Below wc.heap.size wc w') rfl (below_drew (Below.refl _ _)) (fun hSw => ?_)
   refine wpT (i := 0) (v := ?vpw0) ?hpw0 hSw ?kpw0
   case hpw0 => (intro w hSw; (obtain ⟨⟨y0, y1, y2, y3, y4⟩, x0, x1, x2, x3, x4⟩ := KC.out w hSw); go_simp; try (with_reducible rfl))
   go_simp
   refine wpT (i := 1) (v := ?vpw1) ?hpw1 hSw ?kpw1
   case hpw1 => (intro w hSw; (obtain ⟨⟨y0, y1, y2, y3, y4⟩, x0, x1, x2, x3, x4⟩ := KC.out w hSw); go_simp; try (with_reducible rfl))
   go_simp
   refine wpT (i := 2) (v := ?vpw2) ?hpw2 hSw ?kpw2
   case hpw2 => (intro w hSw; (obtain ⟨⟨y0, y1, y2, y3, y4⟩, x0, x1, x2, x3, x4⟩ := KC.out w hSw); go_simp; try (with_reducible rfl))
   go_simp
   refine wpT (i := 3) (v := ?vpw3) ?hpw3 hSw ?kpw3
   case hpw3 => (intro w hSw; (obtain ⟨⟨y0, y1, y2, y3, y4⟩, x0, x1, x2, x3, x4⟩ := KC.out w hSw); go_simp; try (with_reducible rfl))
   go_simp
   refine wpT (i := 4) (v := ?vpw4) ?hpw4 hSw ?kpw4
   case hpw4 => (intro w hSw; (obtain ⟨⟨y0, y1, y2, y3, y4⟩, x0, x1, x2, x3, x4⟩ := KC.out w hSw); go_simp; try (with_reducible rfl))
   go_simp
   refine wpAnyH_ready (rs := [5]) (by kernel_rfl) (by simp) ?_
   refine AllReadyH.cons rfl (fun K hK => ?_) AllReadyH.nil
   go_simp
   with_reducible refine (HWW.out _).mono ?_
   rintro e w6 ⟨rfl, hb6⟩
   go_simp
   refine hK.out _ _ (hSw.trans (hb6.mono hSw.size)) (fun hSn => ?_)
   clear hK K hSw
   have hSw := hSn
   clear hSn
   go_simp
   refine wpT (i := 6) (v := ?vpw6) ?hpw6 hSw ?kpw6
   case hpw6 => (intro w hSw; (obtain ⟨⟨y0, y1, y2, y3, y4⟩, x0, x1, x2, x3, x4⟩ := KC.out w hSw); go_simp; try (with_reducible rfl))
   go_simp
   refine wpAnyH_done (by kernel_rfl) ?_ _
   have hsv := hSw
   clear hSw KC HWW
   obtain ⟨X, hXe⟩ : ∃ X, X = w6 := ⟨_, rfl⟩
   rw [← hXe] at hsv ⊢
   clear hXe hb6
   have hnd := HND.out.below hsv
   have hsx := HSC.out.below hsv
   have hbx := HBXC.out.below hsv
   have hWx := HWC.out.trans (hsv.mono HWC.out.size)
   cases wb with
   | false =>
    have hR : wput l x = l := by unfold wput; rw [if_pos]; rw [HBT.out]; rfl
    have HF := Lib.hid (show PutPost w L ns (wput l x) (.returned (.tuple #[.bool false, .int .i64 0])) X from ⟨false, ns, rfl, hsx, by rw [hR]; exact HL.out.symm, Chg.of_below hWx _, fun g hg => .inl hg⟩)
    clear hR hsx hbx hWx hnd hsv
    go_wp2
    go_ret2
    rw [← HL.out]
    exact HF.out
   | true =>
    have e0 := hbx.cell 0
    have e1 := hbx.cell 1
    have e2 := hbx.cell 2
    have e3 := hbx.cell 3
    have e4 := hbx.cell 4
    have d0 := hnd.cell 0
    have d1 := hnd.cell 1
    have d2 := hnd.cell 2
    have d3 := hnd.cell 3
    have d4 := hnd.cell 4
    have q0 := hnd.free 0
    have q1 := hnd.free 1
    have q2 := hnd.free 2
    have q3 := hnd.free 3
    have q4 := hnd.free 4
    have hst := ((((hnd.store 0 (.int .i64 x.s)).store 1 (.int .i64 x.k)).store 2 (.int .u64 (x.t : Int))).store 3 (.int .u64 (x.v : Int))).store 4 (.int .i64 x.x)
    simp only [It.cells, List.cons_append, List.nil_append, gE0, gE1, List.set_cons_zero, List.set_cons_succ] at e0 e1 e2 e3 e4 d0 d1 d2 d3 d4 hst
    have hcg : Chg [n3.b] X (((((X.setCell ⟨n3.b, 0, none⟩ (.int .i64 x.s)).setCell ⟨n3.b, 1, none⟩ (.int .i64 x.k)).setCell ⟨n3.b, 2, none⟩ (.int .u64 (x.t : Int))).setCell ⟨n3.b, 3, none⟩ (.int .u64 (x.v : Int))).setCell ⟨n3.b, 4, none⟩ (.int .i64 x.x)) := (((((Chg.refl _ X).setCell _ (.inl (by simp))).setCell _ (.inl (by simp))).setCell _ (.inl (by simp))).setCell _ (.inl (by simp))).setCell _ (.inl (by simp))
    have hR : wput l x = l.set (pos l x) x := by
     unfold wput
     rw [if_neg (by rw [HBT.out]; simp)]
     exact HPT.out
    obtain ⟨z1, z2, z3⟩ := hsx.setx (x := x) (k := pos l x) HN3.out (by rw [← HL.out, ← HPT.out]; exact rises_put HRS.out) hcg hst
    rw [← HL.out, ← hR] at z2
    have hF : Chg (skF L ns) w _ := (Chg.of_below hWx (skF L ns)).trans hcg (fun g hg => .inl (by
     rw [List.mem_singleton.1 hg]
     exact List.mem_cons_of_mem _ (List.mem_flatMap.2 ⟨n3, List.mem_of_getElem? HN3.out, by simp⟩)))
    have HF := Lib.hid (show PutPost w L ns (wput l x) (.returned (.tuple #[.bool true, .int .i64 0])) _ from ⟨true, _, rfl, z1, z2, hF, fun g hg => .inl (by rw [z3] at hg; exact hg)⟩)
    clear hR hsx hbx hWx hnd hsv hst hcg z1 z2 z3 hF
    go_wp2
    go_ret2
    rw [← HL.out]
    exact HF.out
  | false =>
   obtain ⟨hbt, hpt⟩ := add_lost HRS.out x HSM.out.symm
   have hql2 : pos l x + 1 ≤ ns.length := by rw [HL.out]; exact hql
   have ht := fun W => tower_any x h W h1 h6
   unfold It.val at ht
   have HT := Lib.hid ht
   have HSC := Lib.hid hsc
   have HBT := Lib.hid hbt
   have HPT := Lib.hid hpt
   have HWC := Lib.hid hWc
   have HBSC := Lib.hid hbsc
   clear ht hsc hbt hpt hWc hbxc hbsc hql
   go_wp2_with fail
   refine (HT.out _).mono ?_
   rintro e w6 ⟨b, tb, rfl, hb1', ht1, hne, hbs, hts, hb6⟩
   obtain ⟨A, hA⟩ : ∃ A, A = ns.take (pos l x + 1) := ⟨_, rfl⟩
   obtain ⟨R, hR⟩ : ∃ R, R = ns.drop (pos l x + 1) := ⟨_, rfl⟩
   have hAR : A ++ R = ns := by rw [hA, hR]; exact List.take_append_drop _ _
   have hAl : A.length = pos l x + 1 := by rw [hA, List.length_take]; omega
   have hlw := HWC.out.size
   have hfr : ∀ g ∈ skF L ns, g < w.heap.size := HLT.out
   have hnb : ∀ g, wc.heap.size ≤ g → g ∉ (A ++ R).flatMap fun n => [n.b, n.tb] := fun g hg hm => by
    rw [hAR] at hm
    have := hfr g (List.mem_cons_of_mem _ hm)
    omega
   have hc0 : SkC w6 (A ++ (⟨x, b, tb, 0, h⟩ : Nd) :: R) := SkC.insert (n := ⟨x, b, tb, 0, h⟩) (by rw [hAR]; exact HSC.out.core.below hb6) rfl h6 hb1' ht1 hne (hnb b hbs) (hnb tb hts)
   have hg8 := (HBSC.out.lt : w3.heap.size < wc.heap.size)
   have hbs6 := HBSC.out.below hb6
   obtain ⟨hd, tl, hns, hh6, hLb⟩ := HSC.out.head
   have hLb6 := hLb.below hb6
   have hW6 := HWC.out.trans (hb6.mono hlw)
   have hg8w : w.heap.size ≤ w3.heap.size := HG8.out
   obtain ⟨F, hF⟩ : ∃ F, F = tb :: ns.flatMap (fun n => [n.b, n.tb]) := ⟨_, rfl⟩
   have h8F : w3.heap.size ∉ F := by
    rw [hF]
    intro hm
    rcases List.mem_cons.1 hm with h2 | h2
    ·omega
    ·have := hfr _ (List.mem_cons_of_mem _ h2)
     omega
   have hLF : L ∉ F := by
    rw [hF]
    intro hm
    rcases List.mem_cons.1 hm with h2 | h2
    ·have := hfr L List.mem_cons_self
     omega
    ·exact HSC.out.out h2
   have HC0 := Lib.hid hc0
   have HB6 := Lib.hid hbs6
   have HAR := Lib.hid hAR
   have HAL := Lib.hid hAl
   have HNS := Lib.hid (And.intro hns hh6)
   have HL6 := Lib.hid hLb6
   have HW6 := Lib.hid hW6
   have HF := Lib.hid hF
   have H8F := Lib.hid h8F
   have HLF := Lib.hid hLF
   have HTS := Lib.hid (show w.heap.size ≤ tb ∧ w.heap.size ≤ b from ⟨by omega, by omega⟩)
   have HJ2 := Lib.hid (show ∀ k, k < 6 → Pred ns k A.length (J k) from fun k hk => by rw [hAl, HL.out]; exact HJ.out k hk)
   clear hc0 hbs6 hAR hAl hns hh6 hLb6 hLb hW6 hA hR hb6 hlw hfr hnb hg8 hg8w hbs hts ht1 hb1' hne hF h8F hLF HJ HSC HBSC HWC HT
   go_wp2_with fail
   go_loopw [60] (fun s wr => ∃ k : Nat, k ≤ h ∧ s = .int .i64 (k : Int) ∧ Hid (SkC wr (A ++ (⟨x, b, tb, k, h⟩ : Nd) :: R) ∧ Chg F w6 wr)) (fun s _ => h - (intOf s).toNat)
   case atStart => exact ⟨0, Nat.zero_le _, rfl, Lib.hid ⟨HC0.out, Chg.refl _ _⟩⟩
   case round =>
    obtain ⟨k, hk', rfl, HK⟩ := hrel
    by_cases hkh : k < h
    ·have hki : (k : Int) < (h : Int) := by omega
     have hk6 : k < 6 := by omega
     have hk6i : (k : Int) < 6 := by omega
     have hwk : IntKind.i64.wrap (k : Int) = (k : Int) := IntWalk.i64_in _ (by omega)
     obtain ⟨p, hp, hph⟩ := (HJ2.out k hk6).on
     have hbk : bk ns (J k) = p.b := bk_of hp
     have hpj : (A ++ (⟨x, b, tb, k, h⟩ : Nd) :: R)[J k]? = some p := by
      have h2 := (HJ2.out k hk6).lt
      rw [← HAR.out, List.getElem?_append_left h2] at hp
      rw [List.getElem?_append_left h2]
      exact hp
     have hnj : (A ++ (⟨x, b, tb, k, h⟩ : Nd) :: R)[A.length]? = some ⟨x, b, tb, k, h⟩ := by simp
     have hsk := HK.out.1
     have hskd : SkC wr.drew (A ++ (⟨x, b, tb, k, h⟩ : Nd) :: R) := hsk.chg (F := []) (Chg.refl _ wr).drew (fun _ _ => by simp)
     obtain ⟨p5, ⟨pl, pf⟩, pc, pc6⟩ := hskd.look hpj hph
     have hnb := hskd.node _ (List.mem_of_getElem? hnj)
     have n5 := hnb.cell 5
     simp only [It.cells, List.cons_append, List.nil_append, gE0, gE1] at n5
     obtain ⟨cs, t1, t2, _⟩ := hskd.tower _ _ hnj
     have tk := t1.cell k
     rw [List.getElem?_eq_getElem (by simp only at t2; omega)] at tk
     have tf := t1.free k
     have g8 := (HB6.out.chg HK.out.2 H8F.out).drew
     have g8k : wr.drew.cell? ⟨w3.heap.size, k, none⟩ = some (.pointer (some ⟨p.b, 0, none⟩)) := by
      rw [g8.cell, six_at (fun l => Value.pointer (some ⟨bk ns (J l), 0, none⟩)) hk6, hbk]
     have hap := nd_apart _ _ _ _ _ hskd.apart hpj hnj
     have hpt : p.tb ≠ tb := fun e => by
      have := hap.2.1 e
      have := (HJ2.out k hk6).lt
      omega
     have hr := hskd.raise (l := k) rfl hkh ((HAR.out ▸ HJ2.out k hk6 : Pred (A ++ R) k A.length (J k)).insert rfl) hpj
     have hld := apload_any p.tb k _ wr.drew pl (hskd.ptr k _)
     generalize hv : (nxb k ((A ++ (⟨x, b, tb, k, h⟩ : Nd) :: R).drop (J k + 1))).map (fun b => (⟨b, 0, none⟩ : Addr)) = v at *
     have hnv : NdPtr wr.drew v := by rw [← hv]; exact hskd.ptr k _
     have hs1 := apstore_any tb k _ v wr.drew tk tf hnv
     have hc1 := chg_set wr.drew ⟨tb, k, none⟩ (.pointer v)
     have htb8 : w3.heap.size ∉ [tb] := fun e => H8F.out (by rw [List.mem_singleton.1 e, HF.out]; simp)
     have g8k2 : (wr.drew.setCell ⟨tb, k, none⟩ (.pointer v)).cell? ⟨w3.heap.size, k, none⟩ = some (.pointer (some ⟨p.b, 0, none⟩)) := by
      rw [(g8.chg hc1 htb8).cell, six_at (fun l => Value.pointer (some ⟨bk ns (J l), 0, none⟩)) hk6, hbk]
     have hpn : p.b ∉ [tb] := fun e => hap.2.2 (List.mem_singleton.1 e)
     have p52 := ((hskd.node p (List.mem_of_getElem? hpj)).chg hc1 hpn).cell 5
     simp only [It.cells, List.cons_append, List.nil_append, gE0, gE1] at p52
     obtain ⟨cp, u1, u2, _⟩ := hskd.tower _ _ hpj
     have u3 := u1.chg hc1 (fun e => hpt (List.mem_singleton.1 e))
     have uk := u3.cell k
     rw [List.getElem?_eq_getElem (by omega)] at uk
     have uf := u3.free k
     have hbn : b ∉ [tb] := fun e => (nd_apart _ _ _ _ _ hskd.apart hnj hnj).2.2 (List.mem_singleton.1 e)
     have hs2 := apstore_any p.tb k _ (some ⟨b, 0, none⟩) _ uk uf ⟨b, _, rfl, hnb.chg hc1 hbn, rfl⟩
     have hpc : (k : Int) < (p.c : Int) := by omega
     have hcF : Chg F w6 ((wr.drew.setCell ⟨tb, k, none⟩ (.pointer v)).setCell ⟨p.tb, k, none⟩ (.pointer (some ⟨b, 0, none⟩))) := (HK.out.2.drew.setCell _ (.inl (by rw [HF.out]; simp))).setCell _ (.inl (by rw [HF.out]; exact List.mem_cons_of_mem _ (List.mem_flatMap.2 ⟨p, List.mem_of_getElem? hp, by simp⟩)))
     have HLD := Lib.hid hld
     have HS1 := Lib.hid hs1
     have HS2 := Lib.hid hs2
     have HR2 := Lib.hid (And.intro hr hcF)
     have q5 : wr.cell? ⟨b, 5, none⟩ = _ := n5
     have g8k3 : (wr.setCell ⟨tb, k, none⟩ (.pointer v)).cell? ⟨w3.heap.size, k, none⟩ = _ := g8k2
     have p53 : (wr.setCell ⟨tb, k, none⟩ (.pointer v)).cell? ⟨p.b, 5, none⟩ = _ := p52
     have q8 : wr.cell? ⟨w3.heap.size, k, none⟩ = _ := g8k
     have qp : wr.cell? ⟨p.b, 5, none⟩ = _ := p5
     clear hld hs1 hs2 hr hcF hsk hskd hnb t1 t2 tk tf g8 hap hpt hnv hc1 htb8 hpn u1 u2 u3 uk uf hbn pl pf pc6 hv HK hpj hnj hp hbk
     go_wp2_with fail
     go_region_with (first
      | (go_at_call 162; refine HLD.out.mono ?_; rintro e w7 ⟨rfl, rfl⟩)
      | (go_at_call 164; refine HS1.out.mono ?_; rintro e w8 ⟨rfl, rfl⟩))
     all_goals
      go_wp2_with fail
      refine HS2.out.mono ?_
      rintro e w9 ⟨rfl, rfl⟩
      go_wp2
      go_roundw
      case rel => exact ⟨k + 1, by omega, by go_num, Lib.hid HR2.out⟩
      case measure => simp [intOf]; omega
    ·have hkk : k = h := by omega
     subst hkk
     have hki : ((k : Int) < (k : Int)) = False := eq_false (by omega)
     have hcx := HK.out.2
     have hl1 := HL6.out.chg hcx HLF.out
     have g0 := hl1.cell 0
     have g1 := hl1.cell 1
     have z0 := hl1.free 1
     simp only [gE0, gE1] at g0 g1
     have htl : tl.length < 1000000 := by have := HNS.out.1; rw [this, List.length_cons] at hnl; omega
     have hwt : IntKind.i64.wrap ((tl.length : Int) + 1) = ((tl.length + 1 : Nat) : Int) := by rw [IntWalk.i64_in _ (by omega)]; omega
     have hst := hl1.store 1 (.int .i64 ((tl.length + 1 : Nat) : Int))
     have hcl := chg_set wr ⟨L, 1, none⟩ (.int .i64 ((tl.length + 1 : Nat) : Int))
     simp only [List.set_cons_zero, List.set_cons_succ] at hst hcl
     have hLn : ∀ g ∈ (A ++ (⟨x, b, tb, k, k⟩ : Nd) :: R).flatMap (fun n => [n.b, n.tb]), g ∈ ns.flatMap (fun n => [n.b, n.tb]) ∨ g = b ∨ g = tb := fun g hg => by
      rw [← HAR.out]
      obtain ⟨m, hm, hg⟩ := List.mem_flatMap.1 hg
      rcases List.mem_append.1 hm with h2 | h2
      ·exact .inl (List.mem_flatMap.2 ⟨m, List.mem_append_left _ h2, hg⟩)
      ·rcases List.mem_cons.1 h2 with rfl | h2
       ·right; simpa using hg
       ·exact .inl (List.mem_flatMap.2 ⟨m, List.mem_append_right _ h2, hg⟩)
     have hLo : L ∉ (A ++ (⟨x, b, tb, k, k⟩ : Nd) :: R).flatMap (fun n => [n.b, n.tb]) := fun hm => by
      have h3 := HLT.out L List.mem_cons_self
      have h4 := HTS.out
      rcases hLn L hm with h2 | h2 | h2
      ·exact HS.out.out h2
      ·omega
      ·omega
     have hcr := HK.out.1.chg hcl (fun g hg e => hLo (by rw [← List.mem_singleton.1 e]; exact hg))
     have hA0 : A = hd :: tl.take (pos l x) := by
      have h2 := HAL.out
      have h3 := HAR.out
      rw [HNS.out.1] at h3
      cases A with
      | nil => simp at h2
      | cons a A =>
       simp only [List.cons_append, List.cons.injEq] at h3
       simp only [List.length_cons, Nat.add_right_cancel_iff] at h2
       rw [← h3.2, ← h2, List.take_left, h3.1]
     have hits : its (A ++ (⟨x, b, tb, k, k⟩ : Nd) :: R) = put l x := by
      rw [its_insert (by rw [HAL.out]; omega), HAR.out, HAL.out, ← HL.out, HPT.out]
      rfl
     have hat : SkAt (wr.setCell ⟨L, 1, none⟩ (.int .i64 ((tl.length + 1 : Nat) : Int))) L (A ++ (⟨x, b, tb, k, k⟩ : Nd) :: R) := by
      refine ⟨hcr, ⟨hd, tl.take (pos l x) ++ (⟨x, b, tb, k, k⟩ : Nd) :: R, by rw [hA0]; rfl, HNS.out.2, ?_⟩, hLo, fun m hm => ?_, by rw [hits]; exact rises_put HRS.out⟩
      ·have h2 : (tl.take (pos l x) ++ (⟨x, b, tb, k, k⟩ : Nd) :: R).length = tl.length + 1 := by
        have h3 := congrArg List.length HAR.out
        rw [hA0, HNS.out.1] at h3
        simp only [List.length_append, List.length_cons, List.cons_append] at h3 ⊢
        omega
       rw [h2]
       exact hst
      ·rcases List.mem_append.1 hm with h2 | h2
       ·exact HS.out.tall m (by rw [← HAR.out]; exact List.mem_append_left _ h2)
       ·rcases List.mem_cons.1 h2 with rfl | h2
        ·exact h1
        ·exact HS.out.tall m (by rw [← HAR.out]; exact List.mem_append_right _ h2)
     have hR : wput l x = put l x := by unfold wput; rw [if_neg (by rw [HBT.out]; simp)]
     have hcz : Chg (skF L ns) w (wr.setCell ⟨L, 1, none⟩ (.int .i64 ((tl.length + 1 : Nat) : Int))) := by
      refine ((Chg.of_below HW6.out (skF L ns)).trans hcx (fun g hg => ?_)).trans hcl (fun g hg => .inl (by rw [List.mem_singleton.1 hg]; exact List.mem_cons_self))
      rw [HF.out] at hg
      rcases List.mem_cons.1 hg with rfl | hg
      ·exact .inr HTS.out.1
      ·exact .inl (List.mem_cons_of_mem _ hg)
     have HFI := Lib.hid (show PutPost w L ns (wput l x) (.returned (.tuple #[.bool true, .int .i64 0])) (wr.setCell ⟨L, 1, none⟩ (.int .i64 ((tl.length + 1 : Nat) : Int))) from ⟨true, _, rfl, hat, by rw [hR]; exact hits, hcz, fun g hg => by
      rcases List.mem_cons.1 hg with rfl | hg
      ·exact .inl List.mem_cons_self
      ·rcases hLn g hg with h2 | h2 | h2
       ·exact .inl (List.mem_cons_of_mem _ h2)
       ·exact .inr (by rw [h2]; exact HTS.out.2)
       ·exact .inr (by rw [h2]; exact HTS.out.1)⟩)
     clear hst hcl hLn hLo hcr hA0 hits hat hR hcz hl1 hcx
     go_wp2
     go_ret2
     rw [← HL.out]
     exact HFI.out
end
section
open Go Go.RowKit Go.Lib
theorem own_at {base g n cap k : Nat} {l : List It} {w : World} (ho : w.ownsRow base 27 5 (.slice (some ⟨g, 0, none⟩) n cap) n (itc l)) (hl : k < l.length) : ∀ t v, t < 5 → (l[k]).cells[t]? = some v → w.cell? ⟨g, k * 5 + t, none⟩ = some v := by
 intro t v ht hv
 have hr := Row.own ho
 have := hr.cells (k * 5 + t) v ((itc_get l k t hl ht).trans hv)
 rwa [Addr.add_lit, Nat.zero_add] at this
def AddPost (base : Nat) (w : World) (R : List It) (e : Ending) (w' : World) : Prop := ∃ k A' c', e = .returned (.slice A' k c') ∧ k = R.length ∧ w'.ownsRow base 27 5 (.slice A' k c') k (itc R) ∧ Below base w w'
theorem sadd_any (base : Nat) (A : Option Addr) (n cap : Nat) (l : List It) (x : It) (w : World) (hn : n ≤ 999999) (hbase : base ≤ w.heap.size) (hS : Stt l) (ho : w.ownsRow base 27 5 (.slice A n cap) n (itc l)) :
  Calls Tryz.prog 81 #[.slice A n cap, x.val] w (AddPost base w (add l x)) := by
 have hln : l.length = n := by have := ho.1; rw [itc_length] at this; omega
 have hbV := (Below.refl base w).alloc hbase (.cells #[.int .i64 x.s, .int .i64 x.k, .int .u64 (x.t : Int), .int .u64 (x.v : Int), .int .i64 x.x] 27)
 have hoV := own_below ho ((Below.refl w.heap.size w).alloc (Nat.le_refl _) (.cells #[.int .i64 x.s, .int .i64 x.k, .int .u64 (x.t : Int), .int .u64 (x.v : Int), .int .i64 x.x] 27))
 have hbx : BoxO (w.alloc (.cells #[.int .i64 x.s, .int .i64 x.k, .int .u64 (x.t : Int), .int .u64 (x.v : Int), .int .i64 x.x] 27)) 27 w.heap.size x.cells := BoxO.new w #[.int .i64 x.s, .int .i64 x.k, .int .u64 (x.t : Int), .int .u64 (x.v : Int), .int .i64 x.x] 27
 have hne : (Value.slice A n cap).ownBlock ≠ some w.heap.size := fun h => by have := (ho.lt _ h).2; omega
 obtain ⟨g, hg⟩ : ∃ g, g = w.heap.size := ⟨_, rfl⟩
 obtain ⟨V, hV⟩ : ∃ V, V = w.alloc (.cells #[.int .i64 x.s, .int .i64 x.k, .int .u64 (x.t : Int), .int .u64 (x.v : Int), .int .i64 x.x] 27) := ⟨_, rfl⟩
 have hVs : base ≤ V.heap.size := by rw [hV]; simp; omega
 rw [← hg] at hbx hne
 rw [← hV] at hbV hoV hbx
 have hok := fun W => iok_any x W
 have hhd := fun W (hW : Below V.heap.size V W) => hidden_any A n cap l x W (by omega) hS.rises hS.ok (Row.own (own_below hoV hW))
 have hpl := fun W (hW : Below V.heap.size V W) => place_any A n cap l x W (by omega) hS.rises (Row.own (own_below hoV hW))
 have hkx : ∀ w', Below V.heap.size V w' → w'.cell? ⟨g, 0, none⟩ = some (.int .i64 x.s) ∧ w'.cell? ⟨g, 1, none⟩ = some (.int .i64 x.k) ∧ w'.cell? ⟨g, 2, none⟩ = some (.int .u64 (x.t : Int)) ∧ w'.cell? ⟨g, 3, none⟩ = some (.int .u64 (x.v : Int)) ∧ w'.cell? ⟨g, 4, none⟩ = some (.int .i64 x.x) := fun w' hb => by
  have hB := hbx.below hb
  exact ⟨hB.cell 0, hB.cell 1, hB.cell 2, hB.cell 3, hB.cell 4⟩
 have hfd := add_found hS.rises x
 have hls := add_lost hS.rises x
 have hat := at_pos hS.rises x
 have hof := off_pos hS.rises x
 have hrl0 := pos_le l x
 obtain ⟨R, hR⟩ : ∃ R, R = add l x := ⟨_, rfl⟩
 rw [← hR]
 unfold add at hR
 unfold It.val at hok hhd hpl ⊢
 generalize (l.any fun y => y.same x) = b at *
 generalize pos l x = r at *
 generalize hq1 : x.ok = o1 at *
 generalize hq2 : hidden l x = o2 at *
 have hfin1 : ∀ w', R = l → Below V.heap.size V w' → AddPost base w R (.returned (.slice A n cap)) w' := fun w' h hb => by
  rw [h]
  exact ⟨n, A, cap, rfl, hln.symm, own_below hoV hb, hbV.trans (hb.mono hVs)⟩
 have HOK := Lib.hid hok
 have HHD := Lib.hid hhd
 have HPL := Lib.hid hpl
 have HKX := Lib.hid hkx
 have HFD := Lib.hid hfd
 have HLS := Lib.hid hls
 have HAT := Lib.hid hat
 have HOF := Lib.hid hof
 have HR := Lib.hid hR
 have HF1 := Lib.hid hfin1
 have HOV := Lib.hid hoV
 have HBX := Lib.hid hbx
 have HV := Lib.hid hV
 have HG := Lib.hid hg
 clear hok hhd hpl hkx hfd hls hat hof hR hfin1 hoV hbx hV hg hq1 hq2 ho
 go_enter Tryz.func81, Tryz.ntmps81
 go_wp2_with fail
 rw [← HV.out, ← HG.out]
 refine (HOK.out _).mono ?_
 rintro e w1 ⟨rfl, hb1⟩
 obtain ⟨x0, x1, x2, x3, x4⟩ := HKX.out _ hb1
 cases o1 with
 | false =>
  have h1 := HF1.out w1 (by rw [HR.out]; rfl) hb1
  have H1 := Lib.hid h1
  clear h1
  go_wp2
  go_ret
  exact H1.out
 | true =>
  go_wp2_with fail
  refine (HHD.out _ hb1).mono ?_
  rintro e w2 ⟨rfl, hb2'⟩
  have hb2 := later_ hb1 hb2'
  clear x0 x1 x2 x3 x4
  obtain ⟨x0, x1, x2, x3, x4⟩ := HKX.out _ hb2
  cases o2 with
  | true =>
   have h1 := HF1.out w2 (by rw [HR.out]; rfl) hb2
   have H1 := Lib.hid h1
   clear h1
   go_wp2
   go_ret
   exact H1.out
  | false =>
   go_wp2_with fail
   refine (HPL.out _ hb2).mono ?_
   rintro e w3 ⟨rfl, hb3'⟩
   have hb3 := later_ hb2 hb3'
   clear x0 x1 x2 x3 x4 hb1 hb2' hb2 hb3' HOK HHD HPL
   have hgV := HBX.out.lt
   cases b with
   | true =>
    have hrl : r < l.length := by
     rcases Nat.lt_or_ge r l.length with h | h
     ·exact h
     ·have := HOF.out (by omega)
      cases this
    have hsm := HAT.out hrl
    obtain ⟨hbt, hput⟩ := HFD.out hrl hsm
    rcases HOV.out.2 with ⟨_, h0⟩ | ⟨g0, cap', cur, hvv, hbg, _, hnc, _⟩
    ·omega
    injection hvv with hA _ hc
    subst hA hc
    have hq := own_at (own_below HOV.out hb3) hrl
    have hwn := fun W => iwins_any x l[r] W
    clear hsm
    generalize l[r] = y at *
    have hkc : ∀ w', Below w3.heap.size w3 w' → (w'.cell? ⟨g, 0, none⟩ = some (.int .i64 x.s) ∧ w'.cell? ⟨g, 1, none⟩ = some (.int .i64 x.k) ∧ w'.cell? ⟨g, 2, none⟩ = some (.int .u64 (x.t : Int)) ∧ w'.cell? ⟨g, 3, none⟩ = some (.int .u64 (x.v : Int)) ∧ w'.cell? ⟨g, 4, none⟩ = some (.int .i64 x.x)) ∧ w'.cell? ⟨g0, r * 5, none⟩ = some (.int .i64 y.s) ∧ w'.cell? ⟨g0, r * 5 + 1, none⟩ = some (.int .i64 y.k) ∧ w'.cell? ⟨g0, r * 5 + 2, none⟩ = some (.int .u64 (y.t : Int)) ∧ w'.cell? ⟨g0, r * 5 + 3, none⟩ = some (.int .u64 (y.v : Int)) ∧ w'.cell? ⟨g0, r * 5 + 4, none⟩ = some (.int .i64 y.x) := fun w' hb => by
     have hlt := HOV.out.lt g0 rfl
     have hc := fun j => hb.cell (p := ⟨g0, j, none⟩) (Nat.lt_of_lt_of_le hlt.2 hb3.size)
     exact ⟨HKX.out _ (hb3.trans (hb.mono hb3.size)), (hc _).trans (hq 0 _ (by omega) rfl), (hc _).trans (hq 1 _ (by omega) rfl), (hc _).trans (hq 2 _ (by omega) rfl), (hc _).trans (hq 3 _ (by omega) rfl), (hc _).trans (hq 4 _ (by omega) rfl)⟩
    unfold It.val at hwn
    obtain ⟨q, hqq⟩ : ∃ q, q = x.wins y := ⟨_, rfl⟩
    rw [← hqq] at hwn hbt
    have KC := Lib.hid hkc
    have HW := Lib.hid hwn
    have HBT := Lib.hid hbt
    have HPT := Lib.hid hput
    have hrn : (r : Int) < (n : Int) := by omega
    clear hkc hwn hbt hput hqq hq HFD HLS HAT HOF
    go_wp2_with fail
    refine wp_region_held_drew (S := fun w' => Below w3.heap.size w3 w') rfl (below_drew (Below.refl _ _)) (fun hSw => ?_)
    refine wpT (i := 0) (v := ?vga0) ?hga0 hSw ?kga0
    case hga0 => (intro w hSw; (obtain ⟨⟨c0, c1, c2, c3, c4⟩, d0, d1, d2, d3, d4⟩ := KC.out w hSw); go_simp; try (with_reducible rfl))
    go_simp
    refine wpT (i := 1) (v := ?vga1) ?hga1 hSw ?kga1
    case hga1 => (intro w hSw; (obtain ⟨⟨c0, c1, c2, c3, c4⟩, d0, d1, d2, d3, d4⟩ := KC.out w hSw); go_simp; try (with_reducible rfl))
    go_simp
    refine wpT (i := 2) (v := ?vga2) ?hga2 hSw ?kga2
    case hga2 => (intro w hSw; (obtain ⟨⟨c0, c1, c2, c3, c4⟩, d0, d1, d2, d3, d4⟩ := KC.out w hSw); go_simp; try (with_reducible rfl))
    go_simp
    refine wpT (i := 3) (v := ?vga3) ?hga3 hSw ?kga3
    case hga3 => (intro w hSw; (obtain ⟨⟨c0, c1, c2, c3, c4⟩, d0, d1, d2, d3, d4⟩ := KC.out w hSw); go_simp; try (with_reducible rfl))
    go_simp
    refine wpT (i := 4) (v := ?vga4) ?hga4 hSw ?kga4
    case hga4 => (intro w hSw; (obtain ⟨⟨c0, c1, c2, c3, c4⟩, d0, d1, d2, d3, d4⟩ := KC.out w hSw); go_simp; try (with_reducible rfl))
    go_simp
    refine wpT (i := 5) (v := ?vga5) ?hga5 hSw ?kga5
    case hga5 => (intro w hSw; (obtain ⟨⟨c0, c1, c2, c3, c4⟩, d0, d1, d2, d3, d4⟩ := KC.out w hSw); go_simp; try (with_reducible rfl))
    go_simp
    refine wpT (i := 6) (v := ?vga6) ?hga6 hSw ?kga6
    case hga6 => (intro w hSw; (obtain ⟨⟨c0, c1, c2, c3, c4⟩, d0, d1, d2, d3, d4⟩ := KC.out w hSw); go_simp; try (with_reducible rfl))
    go_simp
    refine wpAnyH_ready (rs := [7]) (by kernel_rfl) (by simp) ?_
    refine AllReadyH.cons rfl (fun K hK => ?_) AllReadyH.nil
    go_simp
    with_reducible refine (HW.out _).mono ?_
    rintro e w4 ⟨rfl, hb4⟩
    go_simp
    refine hK.out _ _ (hSw.trans (hb4.mono hSw.size)) (fun hSn => ?_)
    clear hK K hSw
    have hSw := hSn
    clear hSn
    go_simp
    refine wpT (i := 8) (v := ?vga8) ?hga8 hSw ?kga8
    case hga8 => (intro w hSw; (obtain ⟨⟨c0, c1, c2, c3, c4⟩, d0, d1, d2, d3, d4⟩ := KC.out w hSw); go_simp; try (with_reducible rfl))
    go_simp
    refine wpT (i := 9) (v := ?vga9) ?hga9 hSw ?kga9
    case hga9 => (intro w hSw; (obtain ⟨⟨c0, c1, c2, c3, c4⟩, d0, d1, d2, d3, d4⟩ := KC.out w hSw); go_simp; try (with_reducible rfl))
    go_simp
    refine wpT (i := 10) (v := ?vga10) ?hga10 hSw ?kga10
    case hga10 => (intro w hSw; (obtain ⟨⟨c0, c1, c2, c3, c4⟩, d0, d1, d2, d3, d4⟩ := KC.out w hSw); go_simp; try (with_reducible rfl))
    go_simp
    refine wpAnyH_done (by kernel_rfl) ?_ _
    have hb5 := hb3.trans (hSw.mono hb3.size)
    generalize w4 = w5 at *
    clear hb4
    cases q with
    | false =>
     have h1 := HF1.out w5 (by rw [HR.out, HBT.out]; rfl) hb5
     have H1 := Lib.hid h1
     clear h1 hSw KC HW
     go_wp2
     go_ret
     exact H1.out
    | true =>
     have hR2 : R = (l.set r x).filter fun y => !x.hides y := by
      rw [HR.out, HBT.out, HPT.out]; rfl
     obtain ⟨⟨x0, x1, x2, x3, x4⟩, _⟩ := KC.out _ hSw
     obtain ⟨ho5, hsome, hfree⟩ := own_set x (own_below HOV.out hb5) (show r < n by omega)
     obtain ⟨u0, s0⟩ := hsome 0 (by omega)
     obtain ⟨u1, s1⟩ := hsome 1 (by omega)
     obtain ⟨u2, s2⟩ := hsome 2 (by omega)
     obtain ⟨u3, s3⟩ := hsome 3 (by omega)
     obtain ⟨u4, s4⟩ := hsome 4 (by omega)
     have z0 := hfree (r * 5)
     have z1 := hfree (r * 5 + 1)
     have z2 := hfree (r * 5 + 2)
     have z3 := hfree (r * 5 + 3)
     have z4 := hfree (r * 5 + 4)
     rw [Nat.add_zero] at s0
     have hC := chg_sets g0 x.cells (r * 5) w5 w5 (Chg.refl _ _)
     have hbx6 := (HBX.out.below hb5).chg hC (by
      intro h
      exact hne (by rw [List.mem_singleton.1 h]; rfl))
     have hst := strike_any x g base _ n cap _ _ (by omega) (Nat.le_trans (Nat.le_trans hVs hb5.size) hC.size) ho5 hbx6 hne
     rw [← hR2] at hst
     have hbz : Below base w (w5.setCells g0 (r * 5) x.cells) := (hbV.trans (hb5.mono hVs)).trans (hC.below (Nat.le_trans hVs hb5.size) (by simpa using hbg))
     have HST := Lib.hid (And.intro hst hbz)
     clear hst hbz hbx6 hC ho5 hsome hfree KC HW hSw hR2
     go_wp2_with fail
     refine HST.out.1.mono ?_
     rintro e w7 ⟨k, A', c', rfl, hk, ho7, hb7⟩
     have H7 : AddPost base w R (.returned (.slice A' k c')) w7 := ⟨k, A', c', rfl, hk, ho7, HST.out.2.trans hb7⟩
     have H8 := Lib.hid H7
     clear H7 ho7 hb7 hk
     go_wp2
     go_ret
     exact H8.out
   | false =>
    obtain ⟨hbt, hput⟩ := HLS.out rfl
    have hR2 : R = (l.take r ++ x :: l.drop r).filter fun y => !x.hides y := by
     rw [HR.out, hbt, hput]; rfl
    have HR2 := Lib.hid hR2
    clear hbt hput hR2 HFD HLS HAT HOF HF1
    go_wp2_with fail
    refine wp_region_held_drew (S := fun w' => Below w3.heap.size w3 w') rfl (below_drew (Below.refl _ _)) (fun hSw => ?_)
    refine wpT (i := 0) (v := ?vgb0) ?hgb0 hSw ?kgb0
    case hgb0 => (intro w hSw; skip; go_simp; try (with_reducible rfl))
    go_simp
    refine wpT (i := 1) (v := ?vgb1) ?hgb1 hSw ?kgb1
    case hgb1 => (intro w hSw; skip; go_simp; try (with_reducible rfl))
    go_simp
    refine wpT0 (i := 2) hSw ?_
    go_simp
    refine wpT0 (i := 3) hSw ?_
    go_simp
    refine wpT0 (i := 4) hSw ?_
    go_simp
    refine wpT0 (i := 5) hSw ?_
    go_simp
    refine wpT0 (i := 6) hSw ?_
    go_simp
    refine wpT0 (i := 7) hSw ?_
    go_simp
    refine wpT0 (i := 8) hSw ?_
    go_simp
    refine wpT (i := 9) (v := ?vgb9) ?hgb9 hSw ?kgb9
    case hgb9 => (intro w hSw; skip; go_simp; try (with_reducible rfl))
    go_simp
    refine wpT (i := 10) (v := ?vgb10) ?hgb10 hSw ?kgb10
    case hgb10 => (intro w hSw; skip; go_simp; try (with_reducible rfl))
    go_simp
    refine wpAnyH_done (by kernel_rfl) ?_ _
    have hb5 := hb3.trans (hSw.mono hb3.size)
    obtain ⟨w5, hw5⟩ : ∃ w5, w5 = w3.drew := ⟨_, rfl⟩
    rw [← hw5] at hb5 ⊢
    clear hSw hw5
    obtain ⟨x0, x1, x2, x3, x4⟩ := HKX.out _ hb5
    have ho5 := own_below HOV.out hb5
    have hbA := (Below.refl w5.heap.size w5).alloc (Nat.le_refl _) (.cells #[.int .i64 x.s, .int .i64 x.k, .int .u64 (x.t : Int), .int .u64 (x.v : Int), .int .i64 x.x] 27)
    have hb6 := later_ hb5 hbA
    have ho6 := own_below ho5 hbA
    have hvb : BoxO (w5.alloc (.cells #[.int .i64 x.s, .int .i64 x.k, .int .u64 (x.t : Int), .int .u64 (x.v : Int), .int .i64 x.x] 27)) 27 w5.heap.size x.cells := BoxO.new w5 #[.int .i64 x.s, .int .i64 x.k, .int .u64 (x.t : Int), .int .u64 (x.v : Int), .int .i64 x.x] 27
    have hA5 : ∀ a, A = some a → w5.heap.size ≠ a.block := fun a ha h => by
     subst ha
     have := (ho5.lt a.block rfl).2
     omega
    have hins := insert_any base A n cap r l x w5.heap.size _ (by omega) (by omega) (Nat.le_trans hVs hb6.size) ho6 hvb hA5
    have HINS := Lib.hid hins
    have HB6 := Lib.hid hb6
    have HV6 := Lib.hid (hbV.trans (hb6.mono hVs))
    have HO6 := Lib.hid ho6
    clear hins hvb hA5 ho6 ho5 hbA hb6 hb5
    go_wp2_with fail
    refine HINS.out.mono ?_
    rintro e w7 ⟨A', c', rfl, ho7, hb7, hob⟩
    have hbx7 : BoxO w7 27 g x.cells := (HBX.out.below HB6.out).chg hb7 (fun h => hne (by simpa using h))
    have hne7 : (Value.slice A' (n + 1) c').ownBlock ≠ some g := by
     rcases hob with h | h
     ·rw [h]; exact hne
     ·rw [h]
      intro h2
      injection h2 with h2
      have := HB6.out.size
      omega
    have hb7' := hb7.below (B := base) (Nat.le_trans hVs HB6.out.size) (fun b hb => (HO6.out.lt b (by simpa using hb)).1)
    have hst := strike_any x g base A' (n + 1) c' _ w7 (by omega) (Nat.le_trans (Nat.le_trans hVs HB6.out.size) hb7.size) ho7 hbx7 hne7
    rw [← HR2.out] at hst
    have HST := Lib.hid (And.intro hst (HV6.out.trans hb7'))
    clear hst hbx7 hne7 ho7 hob hb7 hb7' HINS
    go_wp2_with fail
    refine HST.out.1.mono ?_
    rintro e w8 ⟨k, A2, c2, rfl, hk, ho8, hb8⟩
    have H7 : AddPost base w R (.returned (.slice A2 k c2)) w8 := ⟨k, A2, c2, rfl, hk, ho8, HST.out.2.trans hb8⟩
    have H8 := Lib.hid H7
    clear H7 ho8 hb8 hk
    go_wp2
    go_ret
    exact H8.out
end
section
open Go Go.RowKit Go.Lib
structure Its (B : Nat) (w : World) (A : Option Addr) (n c : Nat) (l : List It) : Prop where
 row : Row w.heap.size w A n 5 (itc l)
 nc : n ≤ c
 cm : c ≤ maxLen
 low : ∀ a, A = some a → B ≤ a.block
theorem iclip_any (A : Option Addr) (n c : Nat) (w : World) (hnc : n ≤ c) : Calls Tryz.prog 82 #[.slice A n c] w fun e w' => e = .returned (.slice A n n) ∧ w = w' := by
 have h1 : (n : Int) ≤ (c : Int) := by omega
 go_enter Tryz.func82, Tryz.ntmps82
 go_wp2
 go_ret
 exact ⟨rfl, rfl⟩
theorem Stt.take {l : List It} (h : Stt l) (k : Nat) : Stt (l.take k) :=
 ⟨h.rises.sublist (List.take_sublist k l), fun y hy => h.ok y (List.mem_of_mem_take hy), fun a ha b hb => h.bare a (List.mem_of_mem_take ha) b (List.mem_of_mem_take hb)⟩
theorem Stt.bare_take {l : List It} (h : Stt l) {k : Nat} (hk : k < l.length) : hidden (l.take k) l[k] = false := by
 unfold hidden
 rw [List.any_eq_false]
 intro t ht
 simp [h.bare t (List.mem_of_mem_take ht) l[k] (List.getElem_mem hk)]
theorem sok_any (A : Option Addr) (n c : Nat) (l : List It) (w : World) (hn : n ≤ 1000000) (hnc : n ≤ c) (hcm : c ≤ maxLen) (hS : Stt l) (hr : Row w.heap.size w A n 5 (itc l)) :
  Calls Tryz.prog 80 #[.slice A n c] w fun e w' => e = .returned (.bool true) ∧ Below w.heap.size w w' := by
 have hnn := hr.itlen
 have HS := Lib.hid hS
 unfold maxLen at hcm
 clear hS
 go_enter Tryz.func80, Tryz.ntmps80
 go_wp2
 go_loopw [7] (fun i wr => ∃ k : Nat, k ≤ n ∧ i = .int .i64 (k : Int) ∧ Below w.heap.size w wr) (fun i _ => n - (intOf i).toNat)
 case atStart => exact ⟨0, Nat.zero_le _, rfl, Below.refl _ _⟩
 case round =>
  obtain ⟨k, hk, rfl, hbl⟩ := hrel
  by_cases hlt : k < n
  ·obtain ⟨a, hl, rfl, hbk, c0, c1, c2, c3, c4⟩ := (hr.below hbl).it hlt
   have hko := HS.out.ok _ (List.getElem_mem hl)
   have hba := HS.out.bare_take hl
   have hok := fun W => iok_any l[k] W
   have hpre := fun (W : World) (hW : Below wr.heap.size wr W) => (((hr.below hbl).up hbl.size).below hW).up hW.size |>.pre (Nat.le_of_lt hlt)
   have hhd := fun (W : World) (hW : Below wr.heap.size wr W) => hidden_any (some a) k c (l.take k) l[k] W (by omega) (HS.out.take k).rises (HS.out.take k).ok (by rw [itc_take]; exact hpre W hW)
   rw [hba] at hhd
   simp only [hko] at hok
   have hless : ∀ (j : Nat) (hj : j < l.length), j < k → It.less l[j] l[k] = true := fun j hj hjk => List.pairwise_iff_getElem.1 HS.out.rises j k hj hl hjk
   generalize hxk : l[k] = x at *
   have hW0 := (Below.refl wr.heap.size wr).alloc (Nat.le_refl _) (.cells #[.int .i64 x.s, .int .i64 x.k, .int .u64 (x.t : Int), .int .u64 (x.v : Int), .int .i64 x.x] 27)
   have hbx : BoxO (wr.alloc (.cells #[.int .i64 x.s, .int .i64 x.k, .int .u64 (x.t : Int), .int .u64 (x.v : Int), .int .i64 x.x] 27)) 27 wr.heap.size x.cells := BoxO.new wr #[.int .i64 x.s, .int .i64 x.k, .int .u64 (x.t : Int), .int .u64 (x.v : Int), .int .i64 x.x] 27
   obtain ⟨W, hWe⟩ : ∃ W, W = wr.alloc (.cells #[.int .i64 x.s, .int .i64 x.k, .int .u64 (x.t : Int), .int .u64 (x.v : Int), .int .i64 x.x] 27) := ⟨_, rfl⟩
   obtain ⟨g, hg⟩ : ∃ g, g = wr.heap.size := ⟨_, rfl⟩
   rw [← hWe] at hW0 hbx
   rw [← hg] at hbx
   have hkx : ∀ w', Below W.heap.size W w' → w'.cell? ⟨g, 0, none⟩ = some (.int .i64 x.s) ∧ w'.cell? ⟨g, 1, none⟩ = some (.int .i64 x.k) ∧ w'.cell? ⟨g, 2, none⟩ = some (.int .u64 (x.t : Int)) ∧ w'.cell? ⟨g, 3, none⟩ = some (.int .u64 (x.v : Int)) ∧ w'.cell? ⟨g, 4, none⟩ = some (.int .i64 x.x) := fun w' hb => by
    have hB := hbx.below hb
    exact ⟨hB.cell 0, hB.cell 1, hB.cell 2, hB.cell 3, hB.cell 4⟩
   unfold It.val at hok hhd
   have hbz : ∀ w', Below W.heap.size W w' → Below wr.heap.size wr w' := fun w' h => later_ hW0 h
   have HOK := Lib.hid hok
   have HHD := Lib.hid hhd
   have HW := Lib.hid hWe
   have HG := Lib.hid hg
   have hkn : (k : Int) ≤ (n : Int) := by omega
   have hkc : k ≤ c := by omega
   have hkc2 : (k : Int) ≤ (c : Int) := by omega
   have hwk : IntKind.i64.wrap (k : Int) = (k : Int) := IntWalk.i64_in _ (by omega)
   rcases Nat.eq_zero_or_pos k with h0 | h0
   ·have hk0 : ((0 : Int) < (k : Int)) = False := eq_false (by omega)
    have hk1 : (0 < k) = False := eq_false (by omega)
    clear h0
    have KC := Lib.hid hkx
    clear hkx hok hhd hWe hg hko hba hpre hless hxk hbx hW0
    go_wp2_with fail
    rw [← HW.out, ← HG.out]
    refine wp_region_held_drew (S := fun w' => Below W.heap.size W w') rfl (below_drew (Below.refl _ _)) (fun hSw => ?_)
    refine wpT (i := 0) (v := ?vka0) ?hka0 hSw ?kka0
    case hka0 => (intro w hSw; (obtain ⟨x0, x1, x2, x3, x4⟩ := KC.out w hSw); go_simp; try (with_reducible rfl))
    go_simp
    refine wpAnyH_ready (rs := [1]) (by kernel_rfl) (by simp) ?_
    refine AllReadyH.cons rfl (fun K hK => ?_) AllReadyH.nil
    go_simp
    with_reducible refine (HOK.out _).mono ?_
    rintro e w1 ⟨rfl, hb1⟩
    go_simp
    refine hK.out _ _ (hSw.trans (hb1.mono hSw.size)) (fun hSn => ?_)
    clear hK K hSw
    have hSw := hSn
    clear hSn
    go_simp
    refine wpT (i := 2) (v := ?vka2) ?hka2 hSw ?kka2
    case hka2 => (intro w hSw; (obtain ⟨x0, x1, x2, x3, x4⟩ := KC.out w hSw); go_simp; try (with_reducible rfl))
    go_simp
    refine wpT (i := 3) (v := ?vka3) ?hka3 hSw ?kka3
    case hka3 => (intro w hSw; (obtain ⟨x0, x1, x2, x3, x4⟩ := KC.out w hSw); go_simp; try (with_reducible rfl))
    go_simp
    refine wpT (i := 4) (v := ?vka4) ?hka4 hSw ?kka4
    case hka4 => (intro w hSw; (obtain ⟨x0, x1, x2, x3, x4⟩ := KC.out w hSw); go_simp; try (with_reducible rfl))
    go_simp
    refine wpT (i := 5) (v := ?vka5) ?hka5 hSw ?kka5
    case hka5 => (intro w hSw; (obtain ⟨x0, x1, x2, x3, x4⟩ := KC.out w hSw); go_simp; try (with_reducible rfl))
    go_simp
    refine wpT (i := 6) (v := ?vka6) ?hka6 hSw ?kka6
    case hka6 => (intro w hSw; (obtain ⟨x0, x1, x2, x3, x4⟩ := KC.out w hSw); go_simp; try (with_reducible rfl))
    go_simp
    refine wpT0 (i := 7) hSw ?_
    go_simp
    refine wpT0 (i := 8) hSw ?_
    go_simp
    refine wpT0 (i := 9) hSw ?_
    go_simp
    refine wpT0 (i := 10) hSw ?_
    go_simp
    refine wpT0 (i := 11) hSw ?_
    go_simp
    refine wpT0 (i := 12) hSw ?_
    go_simp
    refine wpT0 (i := 13) hSw ?_
    go_simp
    refine wpT0 (i := 14) hSw ?_
    go_simp
    refine wpT (i := 15) (v := ?vka15) ?hka15 hSw ?kka15
    case hka15 => (intro w hSw; (obtain ⟨x0, x1, x2, x3, x4⟩ := KC.out w hSw); go_simp; try (with_reducible rfl))
    go_simp
    refine wpT (i := 16) (v := ?vka16) ?hka16 hSw ?kka16
    case hka16 => (intro w hSw; (obtain ⟨x0, x1, x2, x3, x4⟩ := KC.out w hSw); go_simp; try (with_reducible rfl))
    go_simp
    refine wpT (i := 17) (v := ?vka17) ?hka17 hSw ?kka17
    case hka17 => (intro w hSw; (obtain ⟨x0, x1, x2, x3, x4⟩ := KC.out w hSw); go_simp; try (with_reducible rfl))
    go_simp
    refine wpT (i := 18) (v := ?vka18) ?hka18 hSw ?kka18
    case hka18 => (intro w hSw; (obtain ⟨x0, x1, x2, x3, x4⟩ := KC.out w hSw); go_simp; try (with_reducible rfl))
    go_simp
    refine wpT (i := 19) (v := ?vka19) ?hka19 hSw ?kka19
    case hka19 => (intro w hSw; (obtain ⟨x0, x1, x2, x3, x4⟩ := KC.out w hSw); go_simp; try (with_reducible rfl))
    go_simp
    refine wpT (i := 20) (v := ?vka20) ?hka20 hSw ?kka20
    case hka20 => (intro w hSw; (obtain ⟨x0, x1, x2, x3, x4⟩ := KC.out w hSw); go_simp; try (with_reducible rfl))
    go_simp
    refine wpT (i := 21) (v := ?vka21) ?hka21 hSw ?kka21
    case hka21 => (intro w hSw; (obtain ⟨x0, x1, x2, x3, x4⟩ := KC.out w hSw); go_simp; try (with_reducible rfl))
    go_simp
    refine wpAnyH_ready (rs := [22]) (by kernel_rfl) (by simp) ?_
    refine AllReadyH.cons rfl (fun K hK => ?_) AllReadyH.nil
    go_simp
    with_reducible refine (HHD.out _ (hbz _ hSw)).mono ?_
    rintro e w2 ⟨rfl, hb2⟩
    go_simp
    refine hK.out _ _ (hSw.trans (hb2.mono hSw.size)) (fun hSn => ?_)
    clear hK K hSw
    have hSw := hSn
    clear hSn
    go_simp
    refine wpT (i := 23) (v := ?vka23) ?hka23 hSw ?kka23
    case hka23 => (intro w hSw; (obtain ⟨x0, x1, x2, x3, x4⟩ := KC.out w hSw); go_simp; try (with_reducible rfl))
    go_simp
    refine wpAnyH_done (by kernel_rfl) ?_ _
    have hby := later_ hbl (hbz _ hSw)
    clear hSw KC HOK HHD
    go_wp2
    go_roundw
    case rel => exact ⟨k + 1, by omega, by go_num, hby⟩
    case measure => simp [intOf]; omega
   ·obtain ⟨j, hj⟩ : ∃ j, k = j + 1 := ⟨k - 1, by omega⟩
    obtain ⟨a2, hl2, ea, _, hd⟩ := (hr.below hbl).it (k := j) (by omega)
    injection ea with ea
    subst ea
    have hls := fun W => iless_any l[j] x W
    rw [hless j hl2 (by omega)] at hls
    generalize l[j] = y at *
    unfold It.val at hls
    have hkc : ∀ w', Below W.heap.size W w' → (w'.cell? ⟨g, 0, none⟩ = some (.int .i64 x.s) ∧ w'.cell? ⟨g, 1, none⟩ = some (.int .i64 x.k) ∧ w'.cell? ⟨g, 2, none⟩ = some (.int .u64 (x.t : Int)) ∧ w'.cell? ⟨g, 3, none⟩ = some (.int .u64 (x.v : Int)) ∧ w'.cell? ⟨g, 4, none⟩ = some (.int .i64 x.x)) ∧ w'.cell? (a.add (j * 5)) = some (.int .i64 y.s) ∧ w'.cell? ⟨(a.add (j * 5)).block, (a.add (j * 5)).off + 1, none⟩ = some (.int .i64 y.k) ∧ w'.cell? ⟨(a.add (j * 5)).block, (a.add (j * 5)).off + 2, none⟩ = some (.int .u64 (y.t : Int)) ∧ w'.cell? ⟨(a.add (j * 5)).block, (a.add (j * 5)).off + 3, none⟩ = some (.int .u64 (y.v : Int)) ∧ w'.cell? ⟨(a.add (j * 5)).block, (a.add (j * 5)).off + 4, none⟩ = some (.int .i64 y.x) := fun w' hb => by
     have h2 := hd.below (B := wr.heap.size) (w' := w') (Nat.lt_of_lt_of_le hbk hbl.size) (hbz _ hb)
     exact ⟨hkx w' hb, h2.c0, h2.c1, h2.c2, h2.c3, h2.c4⟩
    have hk0 : (0 : Int) < (k : Int) := by omega
    have hk1 : 0 < k := h0
    have hkj : (k : Int) - 1 = (j : Int) := by omega
    have hwj : IntKind.i64.wrap (j : Int) = (j : Int) := IntWalk.i64_in _ (by omega)
    have hw1 : IntKind.i64.wrap ((k : Int) - 1) = (j : Int) := by rw [hkj]; exact hwj
    have hjn : (j : Int) < (n : Int) := by omega
    have KC := Lib.hid hkc
    have HLS := Lib.hid hls
    clear hkx hok hhd hWe hg hko hba hpre hless hxk hbx hW0 hkc hls hd hj h0
    go_wp2_with fail
    rw [← HW.out, ← HG.out]
    refine wp_region_held_drew (S := fun w' => Below W.heap.size W w') rfl (below_drew (Below.refl _ _)) (fun hSw => ?_)
    refine wpT (i := 0) (v := ?vkb0) ?hkb0 hSw ?kkb0
    case hkb0 => (intro w hSw; (obtain ⟨⟨x0, x1, x2, x3, x4⟩, y0, y1, y2, y3, y4⟩ := KC.out w hSw); go_simp; try (with_reducible rfl))
    go_simp
    refine wpAnyH_ready (rs := [1]) (by kernel_rfl) (by simp) ?_
    refine AllReadyH.cons rfl (fun K hK => ?_) AllReadyH.nil
    go_simp
    with_reducible refine (HOK.out _).mono ?_
    rintro e w1 ⟨rfl, hb1⟩
    go_simp
    refine hK.out _ _ (hSw.trans (hb1.mono hSw.size)) (fun hSn => ?_)
    clear hK K hSw
    have hSw := hSn
    clear hSn
    go_simp
    refine wpT (i := 2) (v := ?vkb2) ?hkb2 hSw ?kkb2
    case hkb2 => (intro w hSw; (obtain ⟨⟨x0, x1, x2, x3, x4⟩, y0, y1, y2, y3, y4⟩ := KC.out w hSw); go_simp; try (with_reducible rfl))
    go_simp
    refine wpT (i := 3) (v := ?vkb3) ?hkb3 hSw ?kkb3
    case hkb3 => (intro w hSw; (obtain ⟨⟨x0, x1, x2, x3, x4⟩, y0, y1, y2, y3, y4⟩ := KC.out w hSw); go_simp; try (with_reducible rfl))
    go_simp
    refine wpT (i := 4) (v := ?vkb4) ?hkb4 hSw ?kkb4
    case hkb4 => (intro w hSw; (obtain ⟨⟨x0, x1, x2, x3, x4⟩, y0, y1, y2, y3, y4⟩ := KC.out w hSw); go_simp; try (with_reducible rfl))
    go_simp
    refine wpT (i := 5) (v := ?vkb5) ?hkb5 hSw ?kkb5
    case hkb5 => (intro w hSw; (obtain ⟨⟨x0, x1, x2, x3, x4⟩, y0, y1, y2, y3, y4⟩ := KC.out w hSw); go_simp; try (with_reducible rfl))
    go_simp
    refine wpT (i := 6) (v := ?vkb6) ?hkb6 hSw ?kkb6
    case hkb6 => (intro w hSw; (obtain ⟨⟨x0, x1, x2, x3, x4⟩, y0, y1, y2, y3, y4⟩ := KC.out w hSw); go_simp; try (with_reducible rfl))
    go_simp
    refine wpT (i := 7) (v := ?vkb7) ?hkb7 hSw ?kkb7
    case hkb7 => (intro w hSw; (obtain ⟨⟨x0, x1, x2, x3, x4⟩, y0, y1, y2, y3, y4⟩ := KC.out w hSw); go_simp; try (with_reducible rfl))
    go_simp
    refine wpT (i := 8) (v := ?vkb8) ?hkb8 hSw ?kkb8
    case hkb8 => (intro w hSw; (obtain ⟨⟨x0, x1, x2, x3, x4⟩, y0, y1, y2, y3, y4⟩ := KC.out w hSw); go_simp; try (with_reducible rfl))
    go_simp
    refine wpT (i := 9) (v := ?vkb9) ?hkb9 hSw ?kkb9
    case hkb9 => (intro w hSw; (obtain ⟨⟨x0, x1, x2, x3, x4⟩, y0, y1, y2, y3, y4⟩ := KC.out w hSw); go_simp; try (with_reducible rfl))
    go_simp
    refine wpT (i := 10) (v := ?vkb10) ?hkb10 hSw ?kkb10
    case hkb10 => (intro w hSw; (obtain ⟨⟨x0, x1, x2, x3, x4⟩, y0, y1, y2, y3, y4⟩ := KC.out w hSw); go_simp; try (with_reducible rfl))
    go_simp
    refine wpT (i := 11) (v := ?vkb11) ?hkb11 hSw ?kkb11
    case hkb11 => (intro w hSw; (obtain ⟨⟨x0, x1, x2, x3, x4⟩, y0, y1, y2, y3, y4⟩ := KC.out w hSw); go_simp; try (with_reducible rfl))
    go_simp
    refine wpT (i := 12) (v := ?vkb12) ?hkb12 hSw ?kkb12
    case hkb12 => (intro w hSw; (obtain ⟨⟨x0, x1, x2, x3, x4⟩, y0, y1, y2, y3, y4⟩ := KC.out w hSw); go_simp; try (with_reducible rfl))
    go_simp
    refine wpAnyH_ready (rs := [13]) (by kernel_rfl) (by simp) ?_
    refine AllReadyH.cons rfl (fun K hK => ?_) AllReadyH.nil
    go_simp
    with_reducible refine (HLS.out _).mono ?_
    rintro e w3 ⟨rfl, hb3⟩
    go_simp
    refine hK.out _ _ (hSw.trans (hb3.mono hSw.size)) (fun hSn => ?_)
    clear hK K hSw
    have hSw := hSn
    clear hSn
    go_simp
    refine wpT (i := 14) (v := ?vkb14) ?hkb14 hSw ?kkb14
    case hkb14 => (intro w hSw; (obtain ⟨⟨x0, x1, x2, x3, x4⟩, y0, y1, y2, y3, y4⟩ := KC.out w hSw); go_simp; try (with_reducible rfl))
    go_simp
    refine wpT (i := 15) (v := ?vkb15) ?hkb15 hSw ?kkb15
    case hkb15 => (intro w hSw; (obtain ⟨⟨x0, x1, x2, x3, x4⟩, y0, y1, y2, y3, y4⟩ := KC.out w hSw); go_simp; try (with_reducible rfl))
    go_simp
    refine wpT (i := 16) (v := ?vkb16) ?hkb16 hSw ?kkb16
    case hkb16 => (intro w hSw; (obtain ⟨⟨x0, x1, x2, x3, x4⟩, y0, y1, y2, y3, y4⟩ := KC.out w hSw); go_simp; try (with_reducible rfl))
    go_simp
    refine wpT (i := 17) (v := ?vkb17) ?hkb17 hSw ?kkb17
    case hkb17 => (intro w hSw; (obtain ⟨⟨x0, x1, x2, x3, x4⟩, y0, y1, y2, y3, y4⟩ := KC.out w hSw); go_simp; try (with_reducible rfl))
    go_simp
    refine wpT (i := 18) (v := ?vkb18) ?hkb18 hSw ?kkb18
    case hkb18 => (intro w hSw; (obtain ⟨⟨x0, x1, x2, x3, x4⟩, y0, y1, y2, y3, y4⟩ := KC.out w hSw); go_simp; try (with_reducible rfl))
    go_simp
    refine wpT (i := 19) (v := ?vkb19) ?hkb19 hSw ?kkb19
    case hkb19 => (intro w hSw; (obtain ⟨⟨x0, x1, x2, x3, x4⟩, y0, y1, y2, y3, y4⟩ := KC.out w hSw); go_simp; try (with_reducible rfl))
    go_simp
    refine wpT (i := 20) (v := ?vkb20) ?hkb20 hSw ?kkb20
    case hkb20 => (intro w hSw; (obtain ⟨⟨x0, x1, x2, x3, x4⟩, y0, y1, y2, y3, y4⟩ := KC.out w hSw); go_simp; try (with_reducible rfl))
    go_simp
    refine wpT (i := 21) (v := ?vkb21) ?hkb21 hSw ?kkb21
    case hkb21 => (intro w hSw; (obtain ⟨⟨x0, x1, x2, x3, x4⟩, y0, y1, y2, y3, y4⟩ := KC.out w hSw); go_simp; try (with_reducible rfl))
    go_simp
    refine wpAnyH_ready (rs := [22]) (by kernel_rfl) (by simp) ?_
    refine AllReadyH.cons rfl (fun K hK => ?_) AllReadyH.nil
    go_simp
    with_reducible refine (HHD.out _ (hbz _ hSw)).mono ?_
    rintro e w2 ⟨rfl, hb2⟩
    go_simp
    refine hK.out _ _ (hSw.trans (hb2.mono hSw.size)) (fun hSn => ?_)
    clear hK K hSw
    have hSw := hSn
    clear hSn
    go_simp
    refine wpT (i := 23) (v := ?vkb23) ?hkb23 hSw ?kkb23
    case hkb23 => (intro w hSw; (obtain ⟨⟨x0, x1, x2, x3, x4⟩, y0, y1, y2, y3, y4⟩ := KC.out w hSw); go_simp; try (with_reducible rfl))
    go_simp
    refine wpAnyH_done (by kernel_rfl) ?_ _
    have hby := later_ hbl (hbz _ hSw)
    clear hSw KC HOK HHD HLS
    go_wp2
    go_roundw
    case rel => exact ⟨k + 1, by omega, by go_num, hby⟩
    case measure => simp [intOf]; omega
  ·go_wp2
   go_ret
   exact ⟨rfl, hbl⟩
end
end Go.Proofs.YtdkjoigpahafmaaGreatDoor
