/- Texts EditsW, ManL in one. No conditions. -/
import Derived.Test.YthepokgkfaocmaaGreatDoorBunAO
import Derived.Test.YthepokgkfaocmaaGreatDoorBunAC
import Derived.Deep.RegionHeld3
import Derived.Test.YthepokgkfaocmaaGreatDoorBunAL
import Derived.StillTailTactics

/-
  The walk of the laws' 'edits'.
-/
namespace Go.Proofs.YthepokgkfaocmaaGreatDoor
open Go Go.RowKit

theorem info_edit : (Tryz.prog.info? 39).map (fun i => (i.zero, i.size, i.bytes)) = some (some (.agg #[.slice none 0 0, .slice none 0 0, .int .i64 0, .int .u64 0, .int .u64 0, .int .u64 0, .int .u64 0]), 7, 88) := by kernel_rfl
theorem info_view : (Tryz.prog.info? 31).map (fun i => (i.zero, i.size, i.bytes)) = some (some (.agg #[.int .i64 0, .slice none 0 0, .int .u64 0, .int .u64 0, .int .u64 0, .int .u64 0]), 6, 64) := by kernel_rfl
theorem cs_one (x : Ev) : ∀ u ∈ x.cs, u.oneCell' = true := by
  intro u hu
  simp only [Ev.cs, Ed.cells, List.mem_cons, List.not_mem_nil, or_false] at hu
  rcases hu with rfl | rfl | rfl | rfl | rfl | rfl | rfl <;> rfl
theorem vs_one (x : Vc) : ∀ u ∈ x.cs, u.oneCell' = true := by
  intro u hu
  simp only [Vc.cs, Vw.cells, List.mem_cons, List.not_mem_nil, or_false] at hu
  rcases hu with rfl | rfl | rfl | rfl | rfl | rfl <;> rfl
/-- What edits gives. -/
def EsPost (w : World) (x : Ending) (w' : World) : Prop := Below w.heap.size w w' ∧ (x = .returned (.tuple #[.slice none 0 0, .slice none 0 0, .bool false]) ∨
  ∃ G g gc V k vc gs vs, x = .returned (.tuple #[.slice G g gc, .slice V k vc, .bool true]) ∧ Eds w'.heap.size w' G g gs ∧ Vws w'.heap.size w' V k vs ∧ GChain (gs.map (·.e)) (vs.map (·.v)) ∧ g ≤ 45 ∧ g ≤ gc ∧ gc ≤ maxLen ∧ k ≤ vc ∧ vc ≤ maxLen)
/-- Where edits stands. -/
structure Esz (w : World) (W : World) (o g : Value) (gs : List Ev) (vs : List Vc) (v : Vw) (Av : Option Addr) (nv cv : Nat) : Prop where
  box : BoxO W 31 w.heap.size (v.cells Av nv cv)
  z : Edz w.heap.size (w.heap.size + 1) W g o gs vs
  last : vs[gs.length]? = some ⟨v, Av, nv, cv⟩
  bel : Below w.heap.size w W
theorem Esz.below {w W W' : World} {o g : Value} {gs : List Ev} {vs : List Vc} {v : Vw} {Av : Option Addr} {nv cv : Nat} (h : Esz w W o g gs vs v Av nv cv) (hb : Below W.heap.size W W') : Esz w W' o g gs vs v Av nv cv :=
  ⟨h.box.below hb, h.z.below hb (Nat.le_of_lt h.box.lt), h.last, later_ h.bel hb⟩

set_option maxRecDepth 100000 in
set_option maxHeartbeats 8000000 in
theorem edits_any (A : Option Addr) (n c : Nat) (xs : List Ev) (w : World) (hn : n ≤ c) (hc : c ≤ maxLen) (hx : Eds w.heap.size w A n xs) :
    Calls Tryz.prog 24 #[.slice A n c] w (EsPost w) := by
  obtain ⟨ie, hie0, hie1, hie2, hie3⟩ := info_parts info_edit
  obtain ⟨iv, hiv0, hiv1, hiv2, hiv3⟩ := info_parts info_view
  unfold maxLen at hc
  go_enter Tryz.func24, Tryz.ntmps24
  go_wp2_with fail
  have h0 : Esz w ((w.alloc (.cells #[.int .i64 1, .slice none 0 0, .int .u64 0, .int .u64 0, .int .u64 0, .int .u64 0] 31)).alloc (.cells #[.int .i64 1, .slice none 0 0, .int .u64 0, .int .u64 0, .int .u64 0, .int .u64 0] 31)) (.slice (some ⟨w.heap.size + 1, 0, none⟩) 1 1) (.slice none 0 0) [] [⟨v1g, none, 0, 0⟩] v1g none 0 0 := by
    have hb := (((Below.refl w.heap.size w).alloc (Nat.le_refl _) (.cells #[.int .i64 1, .slice none 0 0, .int .u64 0, .int .u64 0, .int .u64 0, .int .u64 0] 31)).alloc (by simp) (.cells #[.int .i64 1, .slice none 0 0, .int .u64 0, .int .u64 0, .int .u64 0, .int .u64 0] 31))
    have hB1 := BoxO.new (w.alloc (.cells #[.int .i64 1, .slice none 0 0, .int .u64 0, .int .u64 0, .int .u64 0, .int .u64 0] 31)) #[.int .i64 1, .slice none 0 0, .int .u64 0, .int .u64 0, .int .u64 0, .int .u64 0] 31
    simp only [World.size_alloc] at hB1
    refine ⟨(BoxO.new w #[.int .i64 1, .slice none 0 0, .int .u64 0, .int .u64 0, .int .u64 0, .int .u64 0] 31).alloc _, ⟨World.ownsRow_nil _ _ _ _, ⟨rfl, .inr ⟨_, 1, #[.int .i64 1, .slice none 0 0, .int .u64 0, .int .u64 0, .int .u64 0, .int .u64 0], rfl, Nat.le_refl _, hB1, Nat.le_refl _, by decide, rfl, rfl⟩⟩, (fun x hx => by cases hx), fun y hy => ?_, (fun g hg => by cases hg)⟩, rfl, hb⟩
    rw [List.mem_singleton.1 hy]
    exact ⟨⟨Row.nil_, Nat.le_refl _, Nat.zero_le _, Nat.zero_le _⟩, fun j hj => by simp [v1g, fcells] at hj⟩
  go_loopw [6, 7, 8] (fun o g i wr => ∃ (k : Nat) (gs : List Ev) (vs : List Vc) (v : Vw) (Av : Option Addr) (nv cv : Nat) (G : Option Addr) (gc : Nat) (V : Option Addr) (vc : Nat), k ≤ n ∧ k ≤ 45 ∧ i = .int .i64 (k : Int) ∧ gs.length ≤ k ∧ vs.length = gs.length + 1 ∧ o = .slice V (gs.length + 1) vc ∧ g = .slice G gs.length gc ∧ gs.length ≤ gc ∧ gc ≤ maxLen ∧ gs.length + 1 ≤ vc ∧ vc ≤ maxLen ∧ Esz w wr (.slice V (gs.length + 1) vc) (.slice G gs.length gc) gs vs v Av nv cv ∧ Hid (GChain (gs.map (·.e)) (vs.map (·.v)))) (fun _ _ i _ => n - (intOf i).toNat)
  case atStart => exact ⟨0, [], [⟨v1g, none, 0, 0⟩], v1g, none, 0, 0, none, 0, _, 1, Nat.zero_le _, by omega, rfl, Nat.le_refl _, rfl, rfl, rfl, Nat.le_refl _, Nat.zero_le _, Nat.le_refl _, by decide, h0, GChain.start⟩
  case round =>
    obtain ⟨k, gs, vs, v, Av, nv, cv, G, gc, V, vc, hkn, hk45, rfl, hgk, hvl, rfl, rfl, hgc, hgm, hvc, hvm, hE, hch⟩ := hrel
    clear h0
    by_cases hlt : k < n
    · by_cases hlt45 : k < 45
      · have e45 : (k : Int) < 45 := by omega
        obtain ⟨a, hl, rfl, hab, hat, hok⟩ := (hx.below hE.bel).at_ hlt
        generalize xs[k] = x at *
        obtain ⟨c0, c1, c2, c3, c4, c5, c6⟩ := hat
        have hfew := fun W => few_any x.e x.D x.m x.d x.A x.n x.c W
        unfold Ed.val at hfew
        have HF := Lib.hid hfew
        clear hfew
        go_wp2_with fail
        refine (HF.out _).mono ?_
        rintro e w2 ⟨rfl, hb2⟩
        have hE2 := hE.below hb2
        have hgb2 : Below w.heap.size w w2 := hE2.bel
        cases hfw : (decide (x.m ≤ 60) && decide (x.n ≤ 60)) with
        | false =>
          clear hE hE2 hok HF
          go_wp2
          refine bodyPost_ret (v := .tuple #[.slice none 0 0, .slice none 0 0, .bool false]) (by simp [results, go_sem]) rfl ⟨hgb2, .inl rfl⟩
        | true =>
          simp only [Bool.and_eq_true, decide_eq_true_eq] at hfw
          obtain ⟨hm60, hn60⟩ := hfw
          have hat2 : EvAt w2 a k x := EvAt.below (B := wr.heap.size) ⟨c0, c1, c2, c3, c4, c5, c6⟩ (World.block_lt_of_cell? wr _ c0 |> fun h => by rwa [add_block] at h) hb2
          have hok2 : x.ok w.heap.size w2 := hok.below (hb2.mono hE.bel.size)
          clear hE c0 c1 c2 c3 c4 c5 c6 HF hok hb2
          have hKC : ∀ w' : World, Below w2.heap.size w2 w' → w'.cell? ⟨w.heap.size, 0, none⟩ = some (.int .i64 v.log) ∧ w'.cell? ⟨w.heap.size, 1, none⟩ = some (.slice Av nv cv) ∧ w'.cell? ⟨w.heap.size, 2, none⟩ = some (.int .u64 (v.floor : Int)) ∧ w'.cell? ⟨w.heap.size, 3, none⟩ = some (.int .u64 (v.cert : Int)) ∧ w'.cell? ⟨w.heap.size, 4, none⟩ = some (.int .u64 (v.at_ : Int)) ∧ w'.cell? ⟨w.heap.size, 5, none⟩ = some (.int .u64 (v.lease : Int)) ∧
              w'.cell? (a.add (k * 7)) = some (.slice x.D x.m x.d) ∧ w'.cell? ⟨(a.add (k * 7)).block, (a.add (k * 7)).off + 1, none⟩ = some (.slice x.A x.n x.c) ∧ w'.cell? ⟨(a.add (k * 7)).block, (a.add (k * 7)).off + 2, none⟩ = some (.int .i64 x.e.log) ∧ w'.cell? ⟨(a.add (k * 7)).block, (a.add (k * 7)).off + 3, none⟩ = some (.int .u64 (x.e.floor : Int)) ∧ w'.cell? ⟨(a.add (k * 7)).block, (a.add (k * 7)).off + 4, none⟩ = some (.int .u64 (x.e.cert : Int)) ∧ w'.cell? ⟨(a.add (k * 7)).block, (a.add (k * 7)).off + 5, none⟩ = some (.int .u64 (x.e.at_ : Int)) ∧ w'.cell? ⟨(a.add (k * 7)).block, (a.add (k * 7)).off + 6, none⟩ = some (.int .u64 (x.e.lease : Int)) := fun w' hb => by
            have hB := (hE2.below hb).box
            have hA := hat2.below (B := w2.heap.size) (World.block_lt_of_cell? w2 _ hat2.c0 |> fun h => by rwa [add_block] at h) hb
            exact ⟨hB.cell 0, hB.cell 1, hB.cell 2, hB.cell 3, hB.cell 4, hB.cell 5, hA.c0, hA.c1, hA.c2, hA.c3, hA.c4, hA.c5, hA.c6⟩
          have KC := Lib.hid hKC
          obtain ⟨okb, hokb⟩ : ∃ b, b = (v.app x.e).isSome := ⟨_, rfl⟩
          obtain ⟨uu, huu⟩ : ∃ u, u = (v.app x.e).getD Vw.none_ := ⟨_, rfl⟩
          have hlast := hE2.z.ve _ (List.mem_of_getElem? hE2.last)
          have hnv40 : nv ≤ 40 := hlast.1.few
          have hap : ∀ W, Below w2.heap.size w2 W → Calls Tryz.prog 36 #[.agg #[.int .i64 v.log, .slice Av nv cv, .int .u64 (v.floor : Int), .int .u64 (v.cert : Int), .int .u64 (v.at_ : Int), .int .u64 (v.lease : Int)], .agg #[.slice x.D x.m x.d, .slice x.A x.n x.c, .int .i64 x.e.log, .int .u64 (x.e.floor : Int), .int .u64 (x.e.cert : Int), .int .u64 (x.e.at_ : Int), .int .u64 (x.e.lease : Int)]] W fun r W' => Below W.heap.size W W' ∧ ∃ Au nu cu, r = .returned (.tuple #[.agg #[.int .i64 uu.log, .slice Au nu cu, .int .u64 (uu.floor : Int), .int .u64 (uu.cert : Int), .int .u64 (uu.at_ : Int), .int .u64 (uu.lease : Int)], .bool okb]) ∧ (okb = true → Fresh W.heap.size W' Au nu cu uu.files) := fun W hW => by
            refine (refapply_any v Av nv cv x.e x.D x.m x.d x.A x.n x.c W (by omega) (by omega) (by omega) hok2.nc hok2.cm ((hlast.1.row.below hW).up hW.size) ((hok2.d.below (hW.mono hgb2.size)).up (Nat.le_trans hgb2.size hW.size)) ((hok2.a.below (hW.mono hgb2.size)).up (Nat.le_trans hgb2.size hW.size))).mono ?_
            rintro r W' ⟨hb, hr⟩
            refine ⟨hb, ?_⟩
            cases hva : v.app x.e with
            | none =>
              rw [hva] at hr hokb huu
              subst hokb huu
              exact ⟨none, 0, 0, hr, fun h => by cases h⟩
            | some u =>
              rw [hva] at hr hokb huu
              subst hokb huu
              obtain ⟨A3, N3, c3, hr, hf⟩ := hr
              exact ⟨A3, N3, c3, hr, fun _ => hf⟩
          have HAP := Lib.hid hap
          have HOK := Lib.hid hokb
          have HUU := Lib.hid huu
          clear hap hokb huu hKC hlast
          go_wp2
          refine wp_region_held_drew (S := fun w' => Below w2.heap.size w2 w') rfl (below_drew (Below.refl _ _)) (fun hSw => ?_)
          refine wpAnyH_take (i := 0) (v := ?v0) rfl (by kernel_rfl) (by kernel_rfl) (by kernel_rfl) (fun _ _ _ h => h) (Or.inl ⟨by rfl, ?h0⟩) hSw ?k0
          case h0 => (intro w hSw; (obtain ⟨y0, y1, y2, y3, y4, y5, c0, c1, c2, c3, c4, c5, c6⟩ := KC.out w hSw); go_simp; try (with_reducible rfl))
          go_simp
          refine wpAnyH_take (i := 1) (v := ?v1) rfl (by kernel_rfl) (by kernel_rfl) (by kernel_rfl) (fun _ _ _ h => h) (Or.inl ⟨by rfl, ?h1⟩) hSw ?k1
          case h1 => (intro w hSw; (obtain ⟨y0, y1, y2, y3, y4, y5, c0, c1, c2, c3, c4, c5, c6⟩ := KC.out w hSw); go_simp; try (with_reducible rfl))
          go_simp
          refine wpAnyH_take (i := 2) (v := ?v2) rfl (by kernel_rfl) (by kernel_rfl) (by kernel_rfl) (fun _ _ _ h => h) (Or.inl ⟨by rfl, ?h2⟩) hSw ?k2
          case h2 => (intro w hSw; (obtain ⟨y0, y1, y2, y3, y4, y5, c0, c1, c2, c3, c4, c5, c6⟩ := KC.out w hSw); go_simp; try (with_reducible rfl))
          go_simp
          refine wpAnyH_take (i := 3) (v := ?v3) rfl (by kernel_rfl) (by kernel_rfl) (by kernel_rfl) (fun _ _ _ h => h) (Or.inl ⟨by rfl, ?h3⟩) hSw ?k3
          case h3 => (intro w hSw; (obtain ⟨y0, y1, y2, y3, y4, y5, c0, c1, c2, c3, c4, c5, c6⟩ := KC.out w hSw); go_simp; try (with_reducible rfl))
          go_simp
          refine wpAnyH_take (i := 4) (v := ?v4) rfl (by kernel_rfl) (by kernel_rfl) (by kernel_rfl) (fun _ _ _ h => h) (Or.inl ⟨by rfl, ?h4⟩) hSw ?k4
          case h4 => (intro w hSw; (obtain ⟨y0, y1, y2, y3, y4, y5, c0, c1, c2, c3, c4, c5, c6⟩ := KC.out w hSw); go_simp; try (with_reducible rfl))
          go_simp
          refine wpAnyH_ready (rs := [5, 9]) (by kernel_rfl) (by simp) ?_
          refine AllReadyH.cons rfl (fun K hK => ?_) (AllReadyH.cons rfl (fun K hK => ?_) AllReadyH.nil)
          case' refine_1 =>
            go_simp
            refine (HAP.out _ hSw).mono ?_
            rintro e5 w5 ⟨hb5, Au, nu, cu, rfl, hfr⟩
            go_simp
            refine hK.out _ _ (hSw.trans (hb5.mono hSw.size)) (fun hSn => ?_)
            clear hK K hSw
            have hSw := hSn
            clear hSn
            go_simp
            refine wpAnyH_take (i := 6) (v := ?va6) rfl (by kernel_rfl) (by kernel_rfl) (by kernel_rfl) (fun _ _ _ h => h) (Or.inl ⟨by rfl, ?ha6⟩) hSw ?ka6
            case ha6 => (intro w hSw; (obtain ⟨y0, y1, y2, y3, y4, y5, c0, c1, c2, c3, c4, c5, c6⟩ := KC.out w hSw); go_simp; try (with_reducible rfl))
            go_simp
            refine wpAnyH_take (i := 7) (v := ?va7) rfl (by kernel_rfl) (by kernel_rfl) (by kernel_rfl) (fun _ _ _ h => h) (Or.inl ⟨by rfl, ?ha7⟩) hSw ?ka7
            case ha7 => (intro w hSw; (obtain ⟨y0, y1, y2, y3, y4, y5, c0, c1, c2, c3, c4, c5, c6⟩ := KC.out w hSw); go_simp; try (with_reducible rfl))
            go_simp
            refine wpAnyH_take (i := 8) (v := ?va8) rfl (by kernel_rfl) (by kernel_rfl) (by kernel_rfl) (fun _ _ _ h => h) (Or.inl ⟨by rfl, ?ha8⟩) hSw ?ka8
            case ha8 => (intro w hSw; (obtain ⟨y0, y1, y2, y3, y4, y5, c0, c1, c2, c3, c4, c5, c6⟩ := KC.out w hSw); go_simp; try (with_reducible rfl))
            go_simp
            have hS5 := Lib.hid hSw
            refine wpAnyH_ready (rs := [9]) (by kernel_rfl) (by simp) ?_
            refine AllReadyH.cons rfl (fun K hK => ?_) AllReadyH.nil
            go_simp
            refine hK.out _ _ (hSw.alloc hSw.size _) (fun hSn => ?_)
            clear hK K hSw
            have hSw := hSn
            clear hSn
            go_simp
            refine wpAnyH_ready (rs := [10]) (by kernel_rfl) (by simp) ?_
            refine AllReadyH.cons rfl (fun K hK => ?_) AllReadyH.nil
            go_simp
            refine hK.out _ _ (hS5.out.alloc hS5.out.size _) (fun hSn => ?_)
            clear hK K hSw
            have hSw := hSn
            clear hSn
            go_simp
            refine wpAnyH_ready (rs := [11]) (by kernel_rfl) (by simp) ?_
            refine AllReadyH.cons rfl (fun K hK => ?_) AllReadyH.nil
            go_simp
            refine hK.out _ _ hSw (fun hSn => ?_)
            clear hK K hSw
            have hSw := hSn
            clear hSn
            go_simp
            refine wpAnyH_done (by kernel_rfl) ?_ _
            have hbv : BoxO _ 31 w5.heap.size [.int .i64 uu.log, .slice Au nu cu, .int .u64 (uu.floor : Int), .int .u64 (uu.cert : Int), .int .u64 (uu.at_ : Int), .int .u64 (uu.lease : Int)] := BoxO.new w5 #[.int .i64 uu.log, .slice Au nu cu, .int .u64 (uu.floor : Int), .int .u64 (uu.cert : Int), .int .u64 (uu.at_ : Int), .int .u64 (uu.lease : Int)] 31
            have hgb : w2.heap.size ≤ w5.heap.size := hS5.out.size
            have hfrW : okb = true → Fresh w2.heap.size (w5.alloc (.cells #[.int .i64 uu.log, .slice Au nu cu, .int .u64 (uu.floor : Int), .int .u64 (uu.cert : Int), .int .u64 (uu.at_ : Int), .int .u64 (uu.lease : Int)] 31)) Au nu cu uu.files := fun ho => ((hfr ho).base (Nat.le_refl _)).below ((Below.refl _ _).alloc (Nat.le_refl _) _)
            generalize w5.heap.size = gb at *
            generalize w5.alloc (.cells #[.int .i64 uu.log, .slice Au nu cu, .int .u64 (uu.floor : Int), .int .u64 (uu.cert : Int), .int .u64 (uu.at_ : Int), .int .u64 (uu.lease : Int)] 31) = W at *
            clear hS5 hb5 hfr w5
          case' refine_2 =>
            go_simp
            refine hK.out _ _ (hSw.alloc hSw.size _) (fun hSn => ?_)
            clear hK K hSw
            have hSw := hSn
            clear hSn
            go_simp
            refine wpAnyH_ready (rs := [5]) (by kernel_rfl) (by simp) ?_
            refine AllReadyH.cons rfl (fun K hK => ?_) AllReadyH.nil
            have hbz : BoxO (w2.drew.alloc (.cells #[.int .i64 0, .slice none 0 0, .int .u64 0, .int .u64 0, .int .u64 0, .int .u64 0] 31)) 31 w2.heap.size [.int .i64 0, .slice none 0 0, .int .u64 0, .int .u64 0, .int .u64 0, .int .u64 0] := BoxO.new w2.drew #[.int .i64 0, .slice none 0 0, .int .u64 0, .int .u64 0, .int .u64 0, .int .u64 0] 31
            go_simp
            refine (HAP.out _ hSw).mono ?_
            rintro e5 w5 ⟨hb5, Au, nu, cu, rfl, hfr⟩
            have hbz5 := hbz.below hb5
            go_simp
            refine hK.out _ _ (hSw.trans (hb5.mono hSw.size)) (fun hSn => ?_)
            clear hK K hSw
            have hSw := hSn
            clear hSn
            go_simp
            refine wpAnyH_take (i := 6) (v := ?vb6) rfl (by kernel_rfl) (by kernel_rfl) (by kernel_rfl) (fun _ _ _ h => h) (Or.inl ⟨by rfl, ?hb6⟩) hSw ?kb6
            case hb6 => (intro w hSw; (obtain ⟨y0, y1, y2, y3, y4, y5, c0, c1, c2, c3, c4, c5, c6⟩ := KC.out w hSw); go_simp; try (with_reducible rfl))
            go_simp
            refine wpAnyH_take (i := 7) (v := ?vb7) rfl (by kernel_rfl) (by kernel_rfl) (by kernel_rfl) (fun _ _ _ h => h) (Or.inl ⟨by rfl, ?hb7⟩) hSw ?kb7
            case hb7 => (intro w hSw; (obtain ⟨y0, y1, y2, y3, y4, y5, c0, c1, c2, c3, c4, c5, c6⟩ := KC.out w hSw); go_simp; try (with_reducible rfl))
            go_simp
            refine wpAnyH_take (i := 8) (v := ?vb8) rfl (by kernel_rfl) (by kernel_rfl) (by kernel_rfl) (fun _ _ _ h => h) (Or.inl ⟨by rfl, ?hb8⟩) hSw ?kb8
            case hb8 => (intro w hSw; (obtain ⟨y0, y1, y2, y3, y4, y5, c0, c1, c2, c3, c4, c5, c6⟩ := KC.out w hSw); go_simp; try (with_reducible rfl))
            go_simp
            have g0 := hbz5.cell 0
            have f0 := hbz5.free 0
            have g1 := hbz5.cell 1
            have f1 := hbz5.free 1
            have g2 := hbz5.cell 2
            have f2 := hbz5.free 2
            have g3 := hbz5.cell 3
            have f3 := hbz5.free 3
            have g4 := hbz5.cell 4
            have f4 := hbz5.free 4
            have g5 := hbz5.cell 5
            have f5 := hbz5.free 5
            simp only [List.getElem?_cons_zero, List.getElem?_cons_succ] at g0 g1 g2 g3 g4 g5
            refine wpAnyH_ready (rs := [10]) (by kernel_rfl) (by simp) ?_
            refine AllReadyH.cons rfl (fun K hK => ?_) AllReadyH.nil
            go_simp
            have hbv := ((((((hbz5.store 0 (.int .i64 uu.log)).store 1 (.slice Au nu cu)).store 2 (.int .u64 (uu.floor : Int))).store 3 (.int .u64 (uu.cert : Int))).store 4 (.int .u64 (uu.at_ : Int))).store 5 (.int .u64 (uu.lease : Int)))
            have hCz := (((((((Chg.refl [w2.heap.size] w5).setCell (p := ⟨w2.heap.size, 0, none⟩) (.int .i64 uu.log) (.inl (by simp))).setCell (p := ⟨w2.heap.size, 1, none⟩) (.slice Au nu cu) (.inl (by simp))).setCell (p := ⟨w2.heap.size, 2, none⟩) (.int .u64 (uu.floor : Int)) (.inl (by simp))).setCell (p := ⟨w2.heap.size, 3, none⟩) (.int .u64 (uu.cert : Int)) (.inl (by simp))).setCell (p := ⟨w2.heap.size, 4, none⟩) (.int .u64 (uu.at_ : Int)) (.inl (by simp))).setCell (p := ⟨w2.heap.size, 5, none⟩) (.int .u64 (uu.lease : Int)) (.inl (by simp)))
            refine hK.out _ _ ((((((hSw.setCell (p := ⟨w2.heap.size, 0, none⟩) (Nat.le_refl _) _).setCell (p := ⟨w2.heap.size, 1, none⟩) (Nat.le_refl _) _).setCell (p := ⟨w2.heap.size, 2, none⟩) (Nat.le_refl _) _).setCell (p := ⟨w2.heap.size, 3, none⟩) (Nat.le_refl _) _).setCell (p := ⟨w2.heap.size, 4, none⟩) (Nat.le_refl _) _).setCell (p := ⟨w2.heap.size, 5, none⟩) (Nat.le_refl _) _) (fun hSn => ?_)
            clear g0 g1 g2 g3 g4 g5 f0 f1 f2 f3 f4 f5
            clear hK K hSw
            have hSw := hSn
            clear hSn
            go_simp
            refine wpAnyH_ready (rs := [11]) (by kernel_rfl) (by simp) ?_
            refine AllReadyH.cons rfl (fun K hK => ?_) AllReadyH.nil
            go_simp
            refine hK.out _ _ hSw (fun hSn => ?_)
            clear hK K hSw
            have hSw := hSn
            clear hSn
            go_simp
            refine wpAnyH_done (by kernel_rfl) ?_ _
            have hbv : BoxO _ 31 w2.heap.size [.int .i64 uu.log, .slice Au nu cu, .int .u64 (uu.floor : Int), .int .u64 (uu.cert : Int), .int .u64 (uu.at_ : Int), .int .u64 (uu.lease : Int)] := hbv
            have hfrW : okb = true → Fresh w2.heap.size ((((((w5.setCell ⟨w2.heap.size, 0, none⟩ (.int .i64 uu.log)).setCell ⟨w2.heap.size, 1, none⟩ (.slice Au nu cu)).setCell ⟨w2.heap.size, 2, none⟩ (.int .u64 (uu.floor : Int))).setCell ⟨w2.heap.size, 3, none⟩ (.int .u64 (uu.cert : Int))).setCell ⟨w2.heap.size, 4, none⟩ (.int .u64 (uu.at_ : Int))).setCell ⟨w2.heap.size, 5, none⟩ (.int .u64 (uu.lease : Int))) Au nu cu uu.files := fun ho => ((hfr ho).chg hCz (fun a ha hm => by have := (hfr ho).low a ha; simp at hm this; omega)).base (by simp)
            obtain ⟨gb, hgb0, hgb⟩ : ∃ g, g = w2.heap.size ∧ w2.heap.size ≤ g := ⟨_, rfl, Nat.le_refl _⟩
            generalize ((((((w5.setCell ⟨w2.heap.size, 0, none⟩ (.int .i64 uu.log)).setCell ⟨w2.heap.size, 1, none⟩ (.slice Au nu cu)).setCell ⟨w2.heap.size, 2, none⟩ (.int .u64 (uu.floor : Int))).setCell ⟨w2.heap.size, 3, none⟩ (.int .u64 (uu.cert : Int))).setCell ⟨w2.heap.size, 4, none⟩ (.int .u64 (uu.at_ : Int))).setCell ⟨w2.heap.size, 5, none⟩ (.int .u64 (uu.lease : Int))) = W at *
            clear hbz5 hbz hb5 hCz hfr w5
            rw [← hgb0] at hbv ⊢
            clear hgb0
          all_goals
            have hE3 := hE2.below hSw
            have hfr3 := hfrW
            obtain ⟨y0, y1, y2, y3, y4, y5, c0, c1, c2, c3, c4, c5, c6⟩ := KC.out W hSw
            have hSwE : Below w2.heap.size w2 W := hSw
            have hSw3 := hSw
            have hE2l : w.heap.size < w2.heap.size := hE2.box.lt
            have hGl : ∀ g, (Value.slice G gs.length gc).ownBlock = some g → g < w2.heap.size := fun g hg => (hE2.z.good.lt g hg).2
            have hVl : ∀ g, (Value.slice V (gs.length + 1) vc).ownBlock = some g → g < w2.heap.size := fun g hg => (hE2.z.out.lt g hg).2
            clear hSw hfrW HAP hE2 hSw3
            have b0 := hbv.cell 0
            have b1 := hbv.cell 1
            have b2 := hbv.cell 2
            have b3 := hbv.cell 3
            have b4 := hbv.cell 4
            have b5 := hbv.cell 5
            simp only [List.getElem?_cons_zero, List.getElem?_cons_succ] at b0 b1 b2 b3 b4 b5
            cases okb with
            | false =>
              have HE := Lib.hid hE3
              clear hE3 hbv y0 y1 y2 y3 y4 y5 b0 b1 b2 b3 b4 b5 KC hfr3
              go_wp2_with fail
              go_roundw
              case rel => exact ⟨k + 1, gs, vs, v, Av, nv, cv, G, gc, V, vc, by omega, by omega, by go_num, by omega, by omega, rfl, rfl, hgc, hgm, hvc, hvm, HE.out, hch⟩
              case measure => simp [intOf]; omega
            | true =>
              have hfr4 := hfr3 rfl
              have hva : v.app x.e = some uu := by
                have h1 := HOK.out
                have h2 := HUU.out
                cases hh : v.app x.e with
                | none => rw [hh] at h1; cases h1
                | some u => rw [hh] at h2; rw [h2]; rfl
              have hmayc := editmay_any x.e x.D x.m x.d x.A x.n x.c W (by omega) (by omega) ((hok2.d.below (hSwE.mono hgb2.size)).up (Nat.le_trans hgb2.size hSwE.size)) ((hok2.a.below (hSwE.mono hgb2.size)).up (Nat.le_trans hgb2.size hSwE.size))
              unfold Ed.val at hmayc
              have HMC := Lib.hid hmayc
              clear hmayc
              go_wp2_with fail
              refine HMC.out.mono ?_
              rintro e w6 ⟨rfl, hb6⟩
              have hE6 := hE3.below hb6
              have hfr6 := hfr4.below hb6
              have hbv6 := hbv.below hb6
              have hb26 : Below w2.heap.size w2 w6 := hSwE.trans (hb6.mono hSwE.size)
              have hat6 := hat2.below (B := w2.heap.size) (World.block_lt_of_cell? w2 _ hat2.c0 |> fun h => by rwa [add_block] at h) hb26
              have hok6 : x.ok w.heap.size w6 := hok2.below (hb26.mono hgb2.size)
              have hW6 : W.heap.size ≤ w6.heap.size := hb6.size
              clear hE3 hfr4 hbv hb6 HMC y0 y1 y2 y3 y4 y5 c0 c1 c2 c3 c4 c5 c6 b0 b1 b2 b3 b4 b5 KC hfr3 hSwE
              cases hmy : x.e.may with
              | false =>
                have HE := Lib.hid hE6
                have e1 : (mayI false == 0) = false := rfl
                clear hE6 hfr6 hbv6 hat6
                go_wp2_with fail
                go_roundw
                case rel => exact ⟨k + 1, gs, vs, v, Av, nv, cv, G, gc, V, vc, by omega, by omega, by go_num, by omega, by omega, rfl, rfl, hgc, hgm, hvc, hvm, HE.out, hch⟩
                case measure => simp [intOf]; omega
              | true =>
                have e1 : (mayI true == 0) = true := rfl
                have HVA := Lib.hid hva
                have HMY := Lib.hid hmy
                have b0 := hbv6.cell 0
                have b1 := hbv6.cell 1
                have b2 := hbv6.cell 2
                have b3 := hbv6.cell 3
                have b4 := hbv6.cell 4
                have b5 := hbv6.cell 5
                have y0 := hE6.box.cell 0
                have y1 := hE6.box.cell 1
                have y2 := hE6.box.cell 2
                have y3 := hE6.box.cell 3
                have y4 := hE6.box.cell 4
                have y5 := hE6.box.cell 5
                have f0 := hE6.box.free 0
                have f1 := hE6.box.free 1
                have f2 := hE6.box.free 2
                have f3 := hE6.box.free 3
                have f4 := hE6.box.free 4
                have f5 := hE6.box.free 5
                simp only [Vw.cells, List.getElem?_cons_zero, List.getElem?_cons_succ] at b0 b1 b2 b3 b4 b5 y0 y1 y2 y3 y4 y5
                go_upto_region 12 with (fail)
                have hB7 : BoxO ((((((w6.setCell ⟨w.heap.size, 0, none⟩ (.int .i64 uu.log)).setCell ⟨w.heap.size, 1, none⟩ (.slice Au nu cu)).setCell ⟨w.heap.size, 2, none⟩ (.int .u64 (uu.floor : Int))).setCell ⟨w.heap.size, 3, none⟩ (.int .u64 (uu.cert : Int))).setCell ⟨w.heap.size, 4, none⟩ (.int .u64 (uu.at_ : Int))).setCell ⟨w.heap.size, 5, none⟩ (.int .u64 (uu.lease : Int))) 31 w.heap.size (uu.cells Au nu cu) := ((((((hE6.box.store 0 (.int .i64 uu.log)).store 1 (.slice Au nu cu)).store 2 (.int .u64 (uu.floor : Int))).store 3 (.int .u64 (uu.cert : Int))).store 4 (.int .u64 (uu.at_ : Int))).store 5 (.int .u64 (uu.lease : Int)))
                have hC7 := (((((((Chg.refl [w.heap.size] w6).setCell (p := ⟨w.heap.size, 0, none⟩) (.int .i64 uu.log) (.inl (by simp))).setCell (p := ⟨w.heap.size, 1, none⟩) (.slice Au nu cu) (.inl (by simp))).setCell (p := ⟨w.heap.size, 2, none⟩) (.int .u64 (uu.floor : Int)) (.inl (by simp))).setCell (p := ⟨w.heap.size, 3, none⟩) (.int .u64 (uu.cert : Int)) (.inl (by simp))).setCell (p := ⟨w.heap.size, 4, none⟩) (.int .u64 (uu.at_ : Int)) (.inl (by simp))).setCell (p := ⟨w.heap.size, 5, none⟩) (.int .u64 (uu.lease : Int)) (.inl (by simp)))
                have hz7 := hE6.z.chg hC7 (Nat.le_refl _) (by omega) hE6.bel.size
                have hbel7 := hE6.bel.trans (hC7.below hE6.bel.size (by simp))
                have hat7 : EvAt ((((((w6.setCell ⟨w.heap.size, 0, none⟩ (.int .i64 uu.log)).setCell ⟨w.heap.size, 1, none⟩ (.slice Au nu cu)).setCell ⟨w.heap.size, 2, none⟩ (.int .u64 (uu.floor : Int))).setCell ⟨w.heap.size, 3, none⟩ (.int .u64 (uu.cert : Int))).setCell ⟨w.heap.size, 4, none⟩ (.int .u64 (uu.at_ : Int))).setCell ⟨w.heap.size, 5, none⟩ (.int .u64 (uu.lease : Int))) a k x := hat6.keep fun p hp => hC7.cell (by have := World.block_lt_of_cell? w2 _ hat2.c0; rw [add_block] at this; have := hb26.size; omega) (by simp; omega)
                have hfr7 := hfr6.chg hC7 (fun aa ha hm => by have h1 := hfr6.low aa ha; have h2 := hE2l; simp at hm; omega)
                have hok7 : x.ok w.heap.size ((((((w6.setCell ⟨w.heap.size, 0, none⟩ (.int .i64 uu.log)).setCell ⟨w.heap.size, 1, none⟩ (.slice Au nu cu)).setCell ⟨w.heap.size, 2, none⟩ (.int .u64 (uu.floor : Int))).setCell ⟨w.heap.size, 3, none⟩ (.int .u64 (uu.cert : Int))).setCell ⟨w.heap.size, 4, none⟩ (.int .u64 (uu.at_ : Int))).setCell ⟨w.heap.size, 5, none⟩ (.int .u64 (uu.lease : Int))) := hok6.below (hC7.below hE6.bel.size (by simp))
                have hlast7 := hE6.last
                have hs7 := hC7.size
                generalize ((((((w6.setCell ⟨w.heap.size, 0, none⟩ (.int .i64 uu.log)).setCell ⟨w.heap.size, 1, none⟩ (.slice Au nu cu)).setCell ⟨w.heap.size, 2, none⟩ (.int .u64 (uu.floor : Int))).setCell ⟨w.heap.size, 3, none⟩ (.int .u64 (uu.cert : Int))).setCell ⟨w.heap.size, 4, none⟩ (.int .u64 (uu.at_ : Int))).setCell ⟨w.heap.size, 5, none⟩ (.int .u64 (uu.lease : Int))) = W7 at *
                clear b0 b1 b2 b3 b4 b5 y0 y1 y2 y3 y4 y5 f0 f1 f2 f3 f4 f5 hva hmy hE6 hbv6
                obtain ⟨c0, c1, c2, c3, c4, c5, c6⟩ := hat7
                have hlt7 := hB7.lt
                have hsz7 : w2.heap.size ≤ W7.heap.size := Nat.le_trans hb26.size hs7
                have hrx := Row.new (n := 1) (size := 7) W7 #[.slice x.D x.m x.d, .slice x.A x.n x.c, .int .i64 x.e.log, .int .u64 (x.e.floor : Int), .int .u64 (x.e.cert : Int), .int .u64 (x.e.at_ : Int), .int .u64 (x.e.lease : Int)] 39 rfl
                have hb8 := (Below.refl W7.heap.size W7).alloc (Nat.le_refl _) (.cells #[.slice x.D x.m x.d, .slice x.A x.n x.c, .int .i64 x.e.log, .int .u64 (x.e.floor : Int), .int .u64 (x.e.cert : Int), .int .u64 (x.e.at_ : Int), .int .u64 (x.e.lease : Int)] 39)
                have hz8 := hz7.below hb8 (Nat.le_of_lt hlt7)
                have hB8 := hB7.below hb8
                have hok8 := hok7.below (hb8.mono (Nat.le_of_lt hlt7))
                have hfr8 := hfr7.below hb8
                have hbel8 := later_ hbel7 hb8
                have hgood7 := hz7.good
                have hout7 := hz7.out
                go_wp2_with (at_builtin; refine stop_in ?_)
                refine stop_out (wpList_appF rfl (.tmp 49) (.tmp 54) _ rfl (w.heap.size + 1) 39 ie _ 7 88 Tryz.underlying50 hie0 hie1 hie2 hie3 rfl (by omega) (W7.alloc (.cells #[.slice x.D x.m x.d, .slice x.A x.n x.c, .int .i64 x.e.log, .int .u64 (x.e.floor : Int), .int .u64 (x.e.cert : Int), .int .u64 (x.e.at_ : Int), .int .u64 (x.e.lease : Int)] 39)) (Below.refl _ _) (by simp; omega) (.slice G gs.length gc) gs.length (gs.flatMap Ev.cs) rfl hz8.good (W7.heap.size + 1) _ 1 1 (by omega) x.cs rfl hrx (cs_one x) (gs.length + 1) ((gs ++ [x]).flatMap Ev.cs) rfl (by simp) (by unfold maxLen; omega) (by omega) ?_)
                intro A3 c3' w9 ho9 hb9 hg9 hc9 hm9 hob9
                have hz9 := hz8.addE (Nat.le_succ _) (by simp; omega) hok8 hg9 ho9 hob9
                have hB9 : BoxO w9 _ w.heap.size _ := (hb9.block _ (by omega)).trans hB8
                have hbel9 : Below w.heap.size w w9 := hbel8.trans (hb9.mono (by omega))
                have hfr9 : Fresh w2.heap.size w9 Au nu cu uu.files := by
                  refine ⟨(row_grow hfr8.row hg9 (fun j hj aa ha e => ?_)).up hg9.size, hfr8.nc, hfr8.cm, hfr8.low⟩
                  have h1 := (hgood7.lt _ e.symm).2
                  have h2 := hfr8.low aa ha
                  have h3 := hGl _ e.symm
                  omega
                have hs9 := hg9.size
                simp only [World.size_alloc] at hs9
                have hap9 : ∀ j, j < (fcells uu.files).length → ∀ aa, Au = some aa → some aa.block ≠ (Value.slice A3 (gs.length + 1) c3').ownBlock ∧ some aa.block ≠ (Value.slice V (gs.length + 1) vc).ownBlock ∧ w.heap.size + 1 ≤ aa.block := fun j hj aa ha => by
                  have h2 := hfr7.low aa ha
                  have h4 := row_lt hfr7.row hj ha
                  refine ⟨fun e => ?_, fun e => ?_, by omega⟩
                  · rcases hob9 with h | h
                    · rw [h] at e
                      have := hGl _ e.symm
                      omega
                    · rw [h] at e
                      injection e with e
                      simp at e
                      omega
                  · have := hVl _ e.symm
                    omega
                clear hz8 hz7 ho9 hrx hB8 hB7 hfr8 hok8 hok7 hbel8 hbel7 c0 c1 c2 c3 c4 c5 c6
                have u0 := hB9.cell 0
                have u1 := hB9.cell 1
                have u2 := hB9.cell 2
                have u3 := hB9.cell 3
                have u4 := hB9.cell 4
                have u5 := hB9.cell 5
                simp only [Vw.cells, List.getElem?_cons_zero, List.getElem?_cons_succ] at u0 u1 u2 u3 u4 u5
                have hry := Row.new (n := 1) (size := 6) w9 #[.int .i64 uu.log, .slice Au nu cu, .int .u64 (uu.floor : Int), .int .u64 (uu.cert : Int), .int .u64 (uu.at_ : Int), .int .u64 (uu.lease : Int)] 31 rfl
                have hb10 := (Below.refl w9.heap.size w9).alloc (Nat.le_refl _) (.cells #[.int .i64 uu.log, .slice Au nu cu, .int .u64 (uu.floor : Int), .int .u64 (uu.cert : Int), .int .u64 (uu.at_ : Int), .int .u64 (uu.lease : Int)] 31)
                have hlt9 := hB9.lt
                have hz10 := hz9.below hb10 (Nat.le_of_lt hlt9)
                have hB10 := hB9.below hb10
                have hfr10 := hfr9.below hb10
                have hbel10 := later_ hbel9 hb10
                have hnu40 : nu ≤ 40 := by
                  have h1 := hfr9.row.flen
                  have h2 := Vw.app_few HVA.out
                  omega
                have hslt : (Value.slice V (gs.length + 1) vc).ownBlock = (Value.slice V (gs.length + 1) vc).ownBlock := rfl
                go_wp2_with (at_builtin; refine stop_in ?_)
                refine stop_out (wpList_appF rfl (.tmp 56) (.tmp 58) _ rfl (w.heap.size + 1) 31 iv _ 6 64 Tryz.underlying51 hiv0 hiv1 hiv2 hiv3 rfl (by omega) (w9.alloc (.cells #[.int .i64 uu.log, .slice Au nu cu, .int .u64 (uu.floor : Int), .int .u64 (uu.cert : Int), .int .u64 (uu.at_ : Int), .int .u64 (uu.lease : Int)] 31)) (Below.refl _ _) (by simp; omega) (.slice V (gs.length + 1) vc) vs.length (vs.flatMap Vc.cs) rfl hz10.out (w9.heap.size + 1) _ 1 1 (by omega) (Vc.cs ⟨uu, Au, nu, cu⟩) rfl hry (vs_one _) (gs.length + 1 + 1) ((vs ++ [(⟨uu, Au, nu, cu⟩ : Vc)]).flatMap Vc.cs) (by omega) (by simp) (by unfold maxLen; omega) (by omega) ?_)
                intro A4 c4' w11 ho11 hb11 hg11 hc11 hm11 hob11
                have hl11 : gs.length + 1 + 1 = vs.length + 1 := by omega
                rw [hl11] at ho11 hob11
                have hz11 := hz10.addV (y := ⟨uu, Au, nu, cu⟩) (Nat.le_succ _) (by simp; omega) ⟨hfr10.row, hfr10.nc, hfr10.cm, hnu40⟩ hap9 hg11 ho11 hob11
                rw [← hl11] at hz11
                have hB11 : BoxO w11 _ w.heap.size _ := (hb11.block _ (by omega)).trans hB10
                have hbel11 : Below w.heap.size w w11 := hbel10.trans (hb11.mono (by omega))
                have hE11 : Esz w w11 (.slice A4 ((gs ++ [x]).length + 1) c4') (.slice A3 (gs ++ [x]).length c3') (gs ++ [x]) (vs ++ [⟨uu, Au, nu, cu⟩]) uu Au nu cu := by
                  have e1 : (gs ++ [x]).length = gs.length + 1 := by simp
                  rw [e1]
                  exact ⟨hB11, hz11, by rw [e1, List.getElem?_append_right (by omega), hvl]; simp, hbel11⟩
                have hchn : GChain ((gs ++ [x]).map (·.e)) ((vs ++ [(⟨uu, Au, nu, cu⟩ : Vc)]).map (·.v)) := by
                  rw [List.map_append, List.map_append]
                  exact hch.out.snoc (u := v) HMY.out (by rw [List.length_map, List.getElem?_map, hlast7]; rfl) HVA.out
                have HE11 := Lib.hid hE11
                clear hz10 hz9 hz11 ho11 hB9 hB10 hB11 hfr9 hfr10 hry u0 u1 u2 u3 u4 u5 hE11 hap9 hfr7
                go_wp2_with fail
                go_roundw
                case rel => exact ⟨k + 1, gs ++ [x], vs ++ [(⟨uu, Au, nu, cu⟩ : Vc)], uu, Au, nu, cu, A3, c3', A4, c4', by omega, by omega, by go_num, by simp; omega, by simp; omega, by rw [show (gs ++ [x]).length = gs.length + 1 by simp, hvl], by rw [show (gs ++ [x]).length = gs.length + 1 by simp], by simp; omega, hm9, by simp; omega, hm11, HE11.out, Lib.hid hchn⟩
                case measure => simp [intOf]; omega
      · have e45 : ((k : Int) < 45) = False := by simp; omega
        have hfin : EsPost w (.returned (.tuple #[.slice G gs.length gc, .slice V (gs.length + 1) vc, .bool true])) wr := ⟨hE.bel, .inr ⟨G, gs.length, gc, V, gs.length + 1, vc, gs, vs, rfl, ⟨Row.own hE.z.good, fun y hy => (hE.z.ge y hy).up (Nat.le_of_lt hE.box.lt)⟩, ⟨(by have h := hE.z.out; rw [hvl] at h; exact Row.own h), fun y hy => (hE.z.ve y hy).1⟩, hch.out, by omega, hgc, hgm, hvc, hvm⟩⟩
        have HFIN := Lib.hid hfin
        clear hE hfin
        go_wp2
        exact bodyPost_ret (v := .tuple #[.slice G gs.length gc, .slice V (gs.length + 1) vc, .bool true]) (by simp [results, go_sem]) rfl HFIN.out
    · have hfin : EsPost w (.returned (.tuple #[.slice G gs.length gc, .slice V (gs.length + 1) vc, .bool true])) wr := ⟨hE.bel, .inr ⟨G, gs.length, gc, V, gs.length + 1, vc, gs, vs, rfl, ⟨Row.own hE.z.good, fun y hy => (hE.z.ge y hy).up (Nat.le_of_lt hE.box.lt)⟩, ⟨(by have h := hE.z.out; rw [hvl] at h; exact Row.own h), fun y hy => (hE.z.ve y hy).1⟩, hch.out, by omega, hgc, hgm, hvc, hvm⟩⟩
      have HFIN := Lib.hid hfin
      clear hE hfin
      go_wp2
      exact bodyPost_ret (v := .tuple #[.slice G gs.length gc, .slice V (gs.length + 1) vc, .bool true]) (by simp [results, go_sem]) rfl HFIN.out
end Go.Proofs.YthepokgkfaocmaaGreatDoor

/-
  The walk of a manifest's Save, for any View and any change.
-/
namespace Go.Proofs.YthepokgkfaocmaaGreatDoor
open Go Go.RowKit Go.Shelf
variable {P : Sl} {m : Nat} {X X1 : Dw} {w w1 w2 : World} {S S1 : Sd} {M M1 : Gs}

/-- The manifest has another View, whose row is new. -/
theorem Gst.turnV {P1 : Sl} {m : Nat} {X X1 : Dw} {w w1 w2 : World} {S : Sd} {M M1 : Gs} (h : Gst P m X w S M w1 X1) (c : Chg [m] w1 w2) (hm : GK w2 m X.d M1 P1) (hv : Vrow w2 X1 m P1 M1.v.files) : Gst P1 m X w S M1 w2 X1 :=
  ⟨h.acc.other c (fun g hg => by rw [List.mem_singleton.1 hg]; exact ⟨by simp, h.lt, h.out, h.ng⟩), hm, hv, h.lt, h.out, h.ng⟩

set_option maxRecDepth 100000 in
set_option maxHeartbeats 4000000 in
theorem gsave_any (e : Ed) (D : Option Addr) (dm dd : Nat) (A2 : Option Addr) (n2 c2 : Nat) (hdm : dm ≤ 1000000) (hn2 : n2 ≤ 1000000) (hrd : Row w.heap.size w D dm 1 (icells e.drop)) (hra : Row w.heap.size w A2 n2 2 (fcells e.add)) (hvf : P.n ≤ 40)
    (hc0 : M.count ≤ 1000000000) (hnl : M.name.length ≤ 1000) (h0 : Gst P m X w S M w X) :
    Calls Tryz.prog 15 #[.pointer (some ⟨m, 0, none⟩), e.val D dm dd A2 n2 c2] w (GLeft m X w (Gw.save S M e)) := by
  obtain ⟨R, hR⟩ : ∃ R, R = Gw.save S M e := ⟨_, rfl⟩
  rw [← hR]
  unfold Ed.val
  have hbe : Below w.heap.size w (w.alloc (.cells #[.slice D dm dd, .slice A2 n2 c2, .int .i64 e.log, .int .u64 (e.floor : Int), .int .u64 (e.cert : Int), .int .u64 (e.at_ : Int), .int .u64 (e.lease : Int)] 39)) := (Below.refl _ _).alloc (Nat.le_refl _) _
  have h1 := h0.below hbe
  have hbx := BoxO.new w #[.slice D dm dd, .slice A2 n2 c2, .int .i64 e.log, .int .u64 (e.floor : Int), .int .u64 (e.cert : Int), .int .u64 (e.at_ : Int), .int .u64 (e.lease : Int)] 39
  have hrd1 := (hrd.below hbe).up hbe.size
  have hra1 := (hra.below hbe).up hbe.size
  have hlt := h0.man.lt
  have hbel0 := hbe
  generalize hV : w.alloc (.cells #[.slice D dm dd, .slice A2 n2 c2, .int .i64 e.log, .int .u64 (e.floor : Int), .int .u64 (e.cert : Int), .int .u64 (e.at_ : Int), .int .u64 (e.lease : Int)] 39) = V at *
  have b12 := h1.man.cell 12
  have y0 := hbx.cell 0
  have y1 := hbx.cell 1
  have y2 := hbx.cell 2
  have y3 := hbx.cell 3
  have y4 := hbx.cell 4
  have y5 := hbx.cell 5
  have y6 := hbx.cell 6
  simp only [Gs.cells, List.getElem?_cons_zero, List.getElem?_cons_succ] at b12 y0 y1 y2 y3 y4 y5 y6
  cases hbr : M.broken with
  | true =>
    have hh : R = (S, M, 14) := by rw [hR, Gw.save, if_pos hbr]
    have hl := Lib.hid (GLeft.mk_ hh h1)
    rw [hbr] at b12
    clear hR hh hbr
    go_enter Tryz.func15, Tryz.ntmps15
    go_wp2
    go_ret
    exact hl.out
  | false =>
  rw [hbr] at b12
  cases hmay : e.may with
  | false =>
    have hh : R = (S, M, 1) := by rw [hR, Gw.save, if_neg (by simp [hbr]), if_pos hmay]
    have hput := eput_bad none 0 0 e D dm dd A2 n2 c2 V hmay hdm hn2 hrd1 hra1
    unfold Ed.val at hput
    have HH := Lib.hid hh
    clear hR hh hbr hmay
    go_enter Tryz.func15, Tryz.ntmps15
    go_wp2_with fail
    refine hput.mono ?_
    rintro e1 w2 ⟨rfl, hb2⟩
    have hl := Lib.hid (GLeft.mk_ HH.out (h1.below hb2))
    go_wp2
    go_ret
    exact hl.out
  | true =>
    have hmp := may_parts hmay
    have hdl := hrd.ilen
    have hal := hra.flen
    have hrl := Ed.rec_len hmay
    have hput := eput_gen none 0 0 [] e D dm dd A2 n2 c2 V hmay hrd1 hra1 (by omega) (by omega) (by unfold maxLen; omega) Row.nil_
    have hrec : ([] : List UInt8) ++ e.rec_ = e.rec_ := rfl
    rw [hrec] at hput
    unfold Ed.val at hput
    obtain ⟨okb, hokb⟩ : ∃ b, b = (M.v.app e).isSome := ⟨_, rfl⟩
    obtain ⟨uu, huu⟩ : ∃ u, u = (M.v.app e).getD Vw.none_ := ⟨_, rfl⟩
    have HT : R = if okb = true then Gw.put S M e uu else (S, M, 1) := by
      rw [hR, Gw.save, if_neg (by simp [hbr]), if_neg (by simp [hmay])]
      rw [hokb, huu]
      cases M.v.app e with
      | none => rfl
      | some u => rfl
    have HTT := Lib.hid HT
    have hdm40 : dm ≤ 40 := by omega
    have hn240 : n2 ≤ 40 := by omega
    clear hR HT hbr hrec hmay hmp hdl hal
    go_enter Tryz.func15, Tryz.ntmps15
    go_wp2_with fail
    refine hput.mono ?_
    rintro e1 w2 ⟨A, K, c, rfl, hown, hKc, hcm, hb2⟩
    have h2 := h1.below hb2
    have hbx2 := hbx.below hb2
    have hrd2 := (hrd1.below hb2).up hb2.size
    have hra2 := (hra1.below hb2).up hb2.size
    have hKC : ∀ w' : World, Below w2.heap.size w2 w' → w'.cell? ⟨m, 2, none⟩ = some (.int .i64 M.v.log) ∧ w'.cell? ⟨m, 3, none⟩ = some (.slice P.a P.n P.c) ∧ w'.cell? ⟨m, 4, none⟩ = some (.int .u64 (M.v.floor : Int)) ∧ w'.cell? ⟨m, 5, none⟩ = some (.int .u64 (M.v.cert : Int)) ∧ w'.cell? ⟨m, 6, none⟩ = some (.int .u64 (M.v.at_ : Int)) ∧ w'.cell? ⟨m, 7, none⟩ = some (.int .u64 (M.v.lease : Int)) ∧
        w'.cell? ⟨w.heap.size, 0, none⟩ = some (.slice D dm dd) ∧ w'.cell? ⟨w.heap.size, 1, none⟩ = some (.slice A2 n2 c2) ∧ w'.cell? ⟨w.heap.size, 2, none⟩ = some (.int .i64 e.log) ∧ w'.cell? ⟨w.heap.size, 3, none⟩ = some (.int .u64 (e.floor : Int)) ∧ w'.cell? ⟨w.heap.size, 4, none⟩ = some (.int .u64 (e.cert : Int)) ∧ w'.cell? ⟨w.heap.size, 5, none⟩ = some (.int .u64 (e.at_ : Int)) ∧ w'.cell? ⟨w.heap.size, 6, none⟩ = some (.int .u64 (e.lease : Int)) := fun w' hb => by
      have hm2 := (h2.below hb).man
      have he2 := hbx2.below hb
      exact ⟨hm2.cell 2, hm2.cell 3, hm2.cell 4, hm2.cell 5, hm2.cell 6, hm2.cell 7, he2.cell 0, he2.cell 1, he2.cell 2, he2.cell 3, he2.cell 4, he2.cell 5, he2.cell 6⟩
    have KC := Lib.hid hKC
    have hap : ∀ W, Below w2.heap.size w2 W → Calls Tryz.prog 44 #[.agg #[.int .i64 M.v.log, .slice P.a P.n P.c, .int .u64 (M.v.floor : Int), .int .u64 (M.v.cert : Int), .int .u64 (M.v.at_ : Int), .int .u64 (M.v.lease : Int)], .agg #[.slice D dm dd, .slice A2 n2 c2, .int .i64 e.log, .int .u64 (e.floor : Int), .int .u64 (e.cert : Int), .int .u64 (e.at_ : Int), .int .u64 (e.lease : Int)]] W fun r W' => Below W.heap.size W W' ∧ ∃ Au nu cu, r = .returned (.tuple #[.agg #[.int .i64 uu.log, .slice Au nu cu, .int .u64 (uu.floor : Int), .int .u64 (uu.cert : Int), .int .u64 (uu.at_ : Int), .int .u64 (uu.lease : Int)], .bool okb]) ∧ (okb = true → Fresh W.heap.size W' Au nu cu uu.files) := fun W hW => by
      refine (apply_gen M.v P.a P.n P.c e D dm dd A2 n2 c2 W (by omega) (by omega) (by omega) ((h2.row.row.below hW).up hW.size) ((hrd2.below hW).up hW.size) ((hra2.below hW).up hW.size)).mono ?_
      rintro r W' ⟨hb, hr⟩
      refine ⟨hb, ?_⟩
      cases hva : M.v.app e with
      | none =>
        rw [hva] at hr hokb huu
        subst hokb huu
        exact ⟨none, 0, 0, hr, fun h => by cases h⟩
      | some u =>
        rw [hva] at hr hokb huu
        subst hokb huu
        obtain ⟨A3, N3, c3, hr, hf⟩ := hr
        exact ⟨A3, N3, c3, hr, fun _ => hf⟩
    have hok40 : okb = true → uu.files.length ≤ 40 := fun ho => by
      cases hva : M.v.app e with
      | none => rw [hokb, hva] at ho; cases ho
      | some u => rw [huu, hva]; exact Vw.app_few hva
    have HAP := Lib.hid hap
    have H40 := Lib.hid hok40
    clear hap hKC y0 y1 y2 y3 y4 y5 y6 hput b12 hb2 hokb huu hok40 hrd hra hrd1 hra1 hrd2 hra2 hbx hbx2 hV
    go_wp2
    refine wp_region_held_drew (S := fun w' => Below w2.heap.size w2 w') rfl (below_drew (Below.refl _ _)) (fun hSw => ?_)
    refine wpAnyH_take (i := 0) (v := ?v0) rfl (by kernel_rfl) (by kernel_rfl) (by kernel_rfl) (fun _ _ _ h => h) (Or.inl ⟨by rfl, ?h0⟩) hSw ?k0
    case h0 => (intro w hSw; (obtain ⟨z2, z3, z4, z5, z6, z7, y0, y1, y2, y3, y4, y5, y6⟩ := KC.out w hSw); go_simp; try (with_reducible rfl))
    go_simp
    refine wpAnyH_take (i := 1) (v := ?v1) rfl (by kernel_rfl) (by kernel_rfl) (by kernel_rfl) (fun _ _ _ h => h) (Or.inl ⟨by rfl, ?h1⟩) hSw ?k1
    case h1 => (intro w hSw; (obtain ⟨z2, z3, z4, z5, z6, z7, y0, y1, y2, y3, y4, y5, y6⟩ := KC.out w hSw); go_simp; try (with_reducible rfl))
    go_simp
    refine wpAnyH_take (i := 2) (v := ?v2) rfl (by kernel_rfl) (by kernel_rfl) (by kernel_rfl) (fun _ _ _ h => h) (Or.inl ⟨by rfl, ?h2⟩) hSw ?k2
    case h2 => (intro w hSw; (obtain ⟨z2, z3, z4, z5, z6, z7, y0, y1, y2, y3, y4, y5, y6⟩ := KC.out w hSw); go_simp; try (with_reducible rfl))
    go_simp
    refine wpAnyH_take (i := 3) (v := ?v3) rfl (by kernel_rfl) (by kernel_rfl) (by kernel_rfl) (fun _ _ _ h => h) (Or.inl ⟨by rfl, ?h3⟩) hSw ?k3
    case h3 => (intro w hSw; (obtain ⟨z2, z3, z4, z5, z6, z7, y0, y1, y2, y3, y4, y5, y6⟩ := KC.out w hSw); go_simp; try (with_reducible rfl))
    go_simp
    refine wpAnyH_take (i := 4) (v := ?v4) rfl (by kernel_rfl) (by kernel_rfl) (by kernel_rfl) (fun _ _ _ h => h) (Or.inl ⟨by rfl, ?h4⟩) hSw ?k4
    case h4 => (intro w hSw; (obtain ⟨z2, z3, z4, z5, z6, z7, y0, y1, y2, y3, y4, y5, y6⟩ := KC.out w hSw); go_simp; try (with_reducible rfl))
    go_simp
    refine wpAnyH_ready (rs := [5, 9]) (by kernel_rfl) (by simp) ?_
    refine AllReadyH.cons rfl (fun K hK => ?_) (AllReadyH.cons rfl (fun K hK => ?_) AllReadyH.nil)
    case' refine_1 =>
      go_simp
      refine (HAP.out _ hSw).mono ?_
      rintro e5 w5 ⟨hb5, Au, nu, cu, rfl, hfr⟩
      go_simp
      refine hK.out _ _ (hSw.trans (hb5.mono hSw.size)) (fun hSn => ?_)
      clear hK K hSw
      have hSw := hSn
      clear hSn
      go_simp
      refine wpAnyH_take (i := 6) (v := ?va6) rfl (by kernel_rfl) (by kernel_rfl) (by kernel_rfl) (fun _ _ _ h => h) (Or.inl ⟨by rfl, ?ha6⟩) hSw ?ka6
      case ha6 => (intro w hSw; (obtain ⟨z2, z3, z4, z5, z6, z7, y0, y1, y2, y3, y4, y5, y6⟩ := KC.out w hSw); go_simp; try (with_reducible rfl))
      go_simp
      refine wpAnyH_take (i := 7) (v := ?va7) rfl (by kernel_rfl) (by kernel_rfl) (by kernel_rfl) (fun _ _ _ h => h) (Or.inl ⟨by rfl, ?ha7⟩) hSw ?ka7
      case ha7 => (intro w hSw; (obtain ⟨z2, z3, z4, z5, z6, z7, y0, y1, y2, y3, y4, y5, y6⟩ := KC.out w hSw); go_simp; try (with_reducible rfl))
      go_simp
      refine wpAnyH_take (i := 8) (v := ?va8) rfl (by kernel_rfl) (by kernel_rfl) (by kernel_rfl) (fun _ _ _ h => h) (Or.inl ⟨by rfl, ?ha8⟩) hSw ?ka8
      case ha8 => (intro w hSw; (obtain ⟨z2, z3, z4, z5, z6, z7, y0, y1, y2, y3, y4, y5, y6⟩ := KC.out w hSw); go_simp; try (with_reducible rfl))
      go_simp
      have hS5 := Lib.hid hSw
      refine wpAnyH_ready (rs := [9]) (by kernel_rfl) (by simp) ?_
      refine AllReadyH.cons rfl (fun K hK => ?_) AllReadyH.nil
      go_simp
      refine hK.out _ _ (hSw.alloc hSw.size _) (fun hSn => ?_)
      clear hK K hSw
      have hSw := hSn
      clear hSn
      go_simp
      refine wpAnyH_ready (rs := [10]) (by kernel_rfl) (by simp) ?_
      refine AllReadyH.cons rfl (fun K hK => ?_) AllReadyH.nil
      go_simp
      refine hK.out _ _ (hS5.out.alloc hS5.out.size _) (fun hSn => ?_)
      clear hK K hSw
      have hSw := hSn
      clear hSn
      go_simp
      refine wpAnyH_ready (rs := [11]) (by kernel_rfl) (by simp) ?_
      refine AllReadyH.cons rfl (fun K hK => ?_) AllReadyH.nil
      go_simp
      refine hK.out _ _ hSw (fun hSn => ?_)
      clear hK K hSw
      have hSw := hSn
      clear hSn
      go_simp
      refine wpAnyH_done (by kernel_rfl) ?_ _
      have hbv : BoxO _ 31 w5.heap.size [.int .i64 uu.log, .slice Au nu cu, .int .u64 (uu.floor : Int), .int .u64 (uu.cert : Int), .int .u64 (uu.at_ : Int), .int .u64 (uu.lease : Int)] := BoxO.new w5 #[.int .i64 uu.log, .slice Au nu cu, .int .u64 (uu.floor : Int), .int .u64 (uu.cert : Int), .int .u64 (uu.at_ : Int), .int .u64 (uu.lease : Int)] 31
      have hgb : w2.heap.size ≤ w5.heap.size := hS5.out.size
      have hfrW : okb = true → Fresh w2.heap.size (w5.alloc (.cells #[.int .i64 uu.log, .slice Au nu cu, .int .u64 (uu.floor : Int), .int .u64 (uu.cert : Int), .int .u64 (uu.at_ : Int), .int .u64 (uu.lease : Int)] 31)) Au nu cu uu.files := fun ho => ((hfr ho).base (Nat.le_refl _)).below ((Below.refl _ _).alloc (Nat.le_refl _) _)
      generalize w5.heap.size = gb at *
      generalize w5.alloc (.cells #[.int .i64 uu.log, .slice Au nu cu, .int .u64 (uu.floor : Int), .int .u64 (uu.cert : Int), .int .u64 (uu.at_ : Int), .int .u64 (uu.lease : Int)] 31) = W at *
      clear hS5 hb5 hfr w5
    case' refine_2 =>
      go_simp
      refine hK.out _ _ (hSw.alloc hSw.size _) (fun hSn => ?_)
      clear hK K hSw
      have hSw := hSn
      clear hSn
      go_simp
      refine wpAnyH_ready (rs := [5]) (by kernel_rfl) (by simp) ?_
      refine AllReadyH.cons rfl (fun K hK => ?_) AllReadyH.nil
      have hbz : BoxO (w2.drew.alloc (.cells #[.int .i64 0, .slice none 0 0, .int .u64 0, .int .u64 0, .int .u64 0, .int .u64 0] 31)) 31 w2.heap.size [.int .i64 0, .slice none 0 0, .int .u64 0, .int .u64 0, .int .u64 0, .int .u64 0] := BoxO.new w2.drew #[.int .i64 0, .slice none 0 0, .int .u64 0, .int .u64 0, .int .u64 0, .int .u64 0] 31
      go_simp
      refine (HAP.out _ hSw).mono ?_
      rintro e5 w5 ⟨hb5, Au, nu, cu, rfl, hfr⟩
      have hbz5 := hbz.below hb5
      go_simp
      refine hK.out _ _ (hSw.trans (hb5.mono hSw.size)) (fun hSn => ?_)
      clear hK K hSw
      have hSw := hSn
      clear hSn
      go_simp
      refine wpAnyH_take (i := 6) (v := ?vb6) rfl (by kernel_rfl) (by kernel_rfl) (by kernel_rfl) (fun _ _ _ h => h) (Or.inl ⟨by rfl, ?hb6⟩) hSw ?kb6
      case hb6 => (intro w hSw; (obtain ⟨z2, z3, z4, z5, z6, z7, y0, y1, y2, y3, y4, y5, y6⟩ := KC.out w hSw); go_simp; try (with_reducible rfl))
      go_simp
      refine wpAnyH_take (i := 7) (v := ?vb7) rfl (by kernel_rfl) (by kernel_rfl) (by kernel_rfl) (fun _ _ _ h => h) (Or.inl ⟨by rfl, ?hb7⟩) hSw ?kb7
      case hb7 => (intro w hSw; (obtain ⟨z2, z3, z4, z5, z6, z7, y0, y1, y2, y3, y4, y5, y6⟩ := KC.out w hSw); go_simp; try (with_reducible rfl))
      go_simp
      refine wpAnyH_take (i := 8) (v := ?vb8) rfl (by kernel_rfl) (by kernel_rfl) (by kernel_rfl) (fun _ _ _ h => h) (Or.inl ⟨by rfl, ?hb8⟩) hSw ?kb8
      case hb8 => (intro w hSw; (obtain ⟨z2, z3, z4, z5, z6, z7, y0, y1, y2, y3, y4, y5, y6⟩ := KC.out w hSw); go_simp; try (with_reducible rfl))
      go_simp
      have g0 := hbz5.cell 0
      have f0 := hbz5.free 0
      have g1 := hbz5.cell 1
      have f1 := hbz5.free 1
      have g2 := hbz5.cell 2
      have f2 := hbz5.free 2
      have g3 := hbz5.cell 3
      have f3 := hbz5.free 3
      have g4 := hbz5.cell 4
      have f4 := hbz5.free 4
      have g5 := hbz5.cell 5
      have f5 := hbz5.free 5
      simp only [List.getElem?_cons_zero, List.getElem?_cons_succ] at g0 g1 g2 g3 g4 g5
      refine wpAnyH_ready (rs := [10]) (by kernel_rfl) (by simp) ?_
      refine AllReadyH.cons rfl (fun K hK => ?_) AllReadyH.nil
      go_simp
      have hbv := ((((((hbz5.store 0 (.int .i64 uu.log)).store 1 (.slice Au nu cu)).store 2 (.int .u64 (uu.floor : Int))).store 3 (.int .u64 (uu.cert : Int))).store 4 (.int .u64 (uu.at_ : Int))).store 5 (.int .u64 (uu.lease : Int)))
      have hCz := (((((((Chg.refl [w2.heap.size] w5).setCell (p := ⟨w2.heap.size, 0, none⟩) (.int .i64 uu.log) (.inl (by simp))).setCell (p := ⟨w2.heap.size, 1, none⟩) (.slice Au nu cu) (.inl (by simp))).setCell (p := ⟨w2.heap.size, 2, none⟩) (.int .u64 (uu.floor : Int)) (.inl (by simp))).setCell (p := ⟨w2.heap.size, 3, none⟩) (.int .u64 (uu.cert : Int)) (.inl (by simp))).setCell (p := ⟨w2.heap.size, 4, none⟩) (.int .u64 (uu.at_ : Int)) (.inl (by simp))).setCell (p := ⟨w2.heap.size, 5, none⟩) (.int .u64 (uu.lease : Int)) (.inl (by simp)))
      refine hK.out _ _ ((((((hSw.setCell (p := ⟨w2.heap.size, 0, none⟩) (Nat.le_refl _) _).setCell (p := ⟨w2.heap.size, 1, none⟩) (Nat.le_refl _) _).setCell (p := ⟨w2.heap.size, 2, none⟩) (Nat.le_refl _) _).setCell (p := ⟨w2.heap.size, 3, none⟩) (Nat.le_refl _) _).setCell (p := ⟨w2.heap.size, 4, none⟩) (Nat.le_refl _) _).setCell (p := ⟨w2.heap.size, 5, none⟩) (Nat.le_refl _) _) (fun hSn => ?_)
      clear g0 g1 g2 g3 g4 g5 f0 f1 f2 f3 f4 f5
      clear hK K hSw
      have hSw := hSn
      clear hSn
      go_simp
      refine wpAnyH_ready (rs := [11]) (by kernel_rfl) (by simp) ?_
      refine AllReadyH.cons rfl (fun K hK => ?_) AllReadyH.nil
      go_simp
      refine hK.out _ _ hSw (fun hSn => ?_)
      clear hK K hSw
      have hSw := hSn
      clear hSn
      go_simp
      refine wpAnyH_done (by kernel_rfl) ?_ _
      have hbv : BoxO _ 31 w2.heap.size [.int .i64 uu.log, .slice Au nu cu, .int .u64 (uu.floor : Int), .int .u64 (uu.cert : Int), .int .u64 (uu.at_ : Int), .int .u64 (uu.lease : Int)] := hbv
      have hfrW : okb = true → Fresh w2.heap.size ((((((w5.setCell ⟨w2.heap.size, 0, none⟩ (.int .i64 uu.log)).setCell ⟨w2.heap.size, 1, none⟩ (.slice Au nu cu)).setCell ⟨w2.heap.size, 2, none⟩ (.int .u64 (uu.floor : Int))).setCell ⟨w2.heap.size, 3, none⟩ (.int .u64 (uu.cert : Int))).setCell ⟨w2.heap.size, 4, none⟩ (.int .u64 (uu.at_ : Int))).setCell ⟨w2.heap.size, 5, none⟩ (.int .u64 (uu.lease : Int))) Au nu cu uu.files := fun ho => ((hfr ho).chg hCz (fun a ha hm => by have := (hfr ho).low a ha; simp at hm this; omega)).base (by simp)
      obtain ⟨gb, hgb0, hgb⟩ : ∃ g, g = w2.heap.size ∧ w2.heap.size ≤ g := ⟨_, rfl, Nat.le_refl _⟩
      generalize ((((((w5.setCell ⟨w2.heap.size, 0, none⟩ (.int .i64 uu.log)).setCell ⟨w2.heap.size, 1, none⟩ (.slice Au nu cu)).setCell ⟨w2.heap.size, 2, none⟩ (.int .u64 (uu.floor : Int))).setCell ⟨w2.heap.size, 3, none⟩ (.int .u64 (uu.cert : Int))).setCell ⟨w2.heap.size, 4, none⟩ (.int .u64 (uu.at_ : Int))).setCell ⟨w2.heap.size, 5, none⟩ (.int .u64 (uu.lease : Int))) = W at *
      clear hbz5 hbz hb5 hCz hfr w5
      rw [← hgb0] at hbv ⊢
      clear hgb0
    all_goals
      have h3 := h2.below hSw
      have hfr3 := hfrW
      have hm2lt := h2.man.lt
      have hdk2 := h2.acc.dm.dk
      have hrow := Lib.hid ((((Row.own hown).below hSw)).arg (B := w2.heap.size) hSw.size)
      have hA : ∀ a, A = some a → a.block ∉ X.foot := fun a ha hm => by
        obtain ⟨A', c', e', _, _, h6⟩ := own_form hown
        injection e' with e' _ _
        have h7 := (h6 a (by rw [← e']; exact ha)).1
        have h8 := h1.acc.dm.dk.lt _ hm
        omega
      have hKl : K ≤ 1099511627776 := by
        have e1 := (Row.own hown).btlen
        omega
      have hmgb : ¬ m = gb := by omega
      have hgbX : gb ∉ [m] ++ X.foot := fun hm => by
        rcases List.mem_append.1 hm with h5 | h5
        · exact hmgb (List.mem_singleton.1 h5).symm
        · have := hdk2.lt _ h5
          omega
      have hS2 := hSw.size
      clear hSw hfrW HAP h2
      cases okb with
      | false =>
        have hh : R = (S, M, 1) := HTT.out.trans (if_neg (by simp))
        have hl := Lib.hid (GLeft.mk_ hh h3)
        clear hh hbv h3 KC hfr3 hrow hA
        go_wp2
        go_ret
        exact hl.out
      | true =>
      have HT1 := HTT.out.trans (if_pos rfl)
      have hfr4 := hfr3 rfl
      have hu40 := H40.out rfl
      have HT1H := Lib.hid HT1
      clear HTT HT1 hfr3 H40
      have h4 := (h3.below (below_drew (Below.refl _ _))).anew
      have hbx5 : BoxO W.drew 31 gb [.int .i64 uu.log, .slice Au nu cu, .int .u64 (uu.floor : Int), .int .u64 (uu.cert : Int), .int .u64 (uu.at_ : Int), .int .u64 (uu.lease : Int)] := hbv
      have hap := h4.append (str M.name) (by rw [str_size]; unfold maxLen; omega) A K c e.rec_ hKl hrow.out.drew hA
      rw [list_str] at hap
      have HAP := Lib.hid hap
      have d0 := h3.man.cell 0
      have d1 := h3.man.cell 1
      simp only [Gs.cells, List.getElem?_cons_zero, List.getElem?_cons_succ] at d0 d1
      have HB5 := Lib.hid hbx5
      have HGX := Lib.hid hgbX
      have hfrD : Fresh w2.heap.size W.drew Au nu cu uu.files := hfr4.below (below_drew (Below.refl _ _))
      have HFR := Lib.hid hfrD
      have HT2 : Hid (R = if (S.append M.name e.rec_).2 ≠ 0 then ((S.append M.name e.rec_).1, M, (S.append M.name e.rec_).2) else if ((S.append M.name e.rec_).1.sync M.name).2 ≠ 0 then (((S.append M.name e.rec_).1.sync M.name).1, { M with count := M.count + 1, v := uu, broken := true }, ((S.append M.name e.rec_).1.sync M.name).2) else (((S.append M.name e.rec_).1.sync M.name).1, { M with count := M.count + 1, v := uu }, 0)) := HT1H.out
      have hmlt4 := h4.man.lt
      have hfl := hfr4.row.flen
      clear hap hown hA hKl hrow hbv hbe hbel0 hbx5 hgbX KC hfr4 hfrD HT1H
      generalize S.append M.name e.rec_ = PP at *
      obtain ⟨S1, e1⟩ := PP
      simp only at HT2
      go_wp2
      go_still_tail 9, (by kernel_rfl)
      change wpList _ _ _ _ _ (World.drew W)
      go_wp2_with fail
      refine HAP.out.mono ?_
      rintro e6 w6 ⟨rfl, X6, h6⟩
      by_cases q1 : e1 = 0
      case neg =>
        have hne := neq0 q1
        have hh := HT2.out
        rw [if_pos q1] at hh
        have hl := Lib.hid (GLeft.mk_ hh ((h3.below (below_drew (Below.refl _ _))).trans h6))
        clear hh
        go_wp2
        go_ret
        exact hl.out
      subst q1
      have HT3 : Hid (R = if (S1.sync M.name).2 ≠ 0 then ((S1.sync M.name).1, { M with count := M.count + 1, v := uu, broken := true }, (S1.sync M.name).2) else ((S1.sync M.name).1, { M with count := M.count + 1, v := uu }, 0)) := HT2.out.trans (if_neg (by simp))
      have hbx6 := HB5.out.chg h6.acc.c HGX.out
      have hrow6 : Row w6.heap.size w6 Au nu 2 (fcells uu.files) := by
        refine (row_chg h6.acc.c HFR.out.row (Nat.le_refl _) (fun j hj a ha hm => ?_)).up h6.acc.c.size
        have h7 := HFR.out.low a ha
        rcases List.mem_append.1 hm with h5 | h5
        · have := List.mem_singleton.1 h5
          omega
        · have := hdk2.lt _ h5
          omega
      have hvr6 : Vrow w6 X6 m ⟨Au, nu, cu⟩ uu.files := by
        refine ⟨hrow6, HFR.out.nc, HFR.out.cm, by simp only; omega, fun j hj a ha => ?_⟩
        have h7 := HFR.out.low a ha
        have h8 := row_lt HFR.out.row hj ha
        refine ⟨by omega, fun hm => ?_⟩
        rcases h6.acc.f _ hm with h9 | h9
        · have := hdk2.lt _ h9
          omega
        · omega
      have x0 := hbx6.cell 0
      have x1 := hbx6.cell 1
      have x2 := hbx6.cell 2
      have x3 := hbx6.cell 3
      have x4 := hbx6.cell 4
      have x5 := hbx6.cell 5
      have d2 := h6.man.cell 2
      have d3 := h6.man.cell 3
      have d4 := h6.man.cell 4
      have d5 := h6.man.cell 5
      have d6 := h6.man.cell 6
      have d7 := h6.man.cell 7
      have d8 := h6.man.cell 8
      have f2 := h6.man.free 2
      have f3 := h6.man.free 3
      have f4 := h6.man.free 4
      have f5 := h6.man.free 5
      have f6 := h6.man.free 6
      have f7 := h6.man.free 7
      have f8 := h6.man.free 8
      simp only [Gs.cells, List.getElem?_cons_zero, List.getElem?_cons_succ] at x0 x1 x2 x3 x4 x5 d2 d3 d4 d5 d6 d7 d8
      have hmk : GK (((((((w6.setCell ⟨m, 8, none⟩ (.int .i64 ((M.count : Int) + 1))).setCell ⟨m, 2, none⟩ (.int .i64 uu.log)).setCell ⟨m, 3, none⟩ (.slice Au nu cu)).setCell ⟨m, 4, none⟩ (.int .u64 (uu.floor : Int))).setCell ⟨m, 5, none⟩ (.int .u64 (uu.cert : Int))).setCell ⟨m, 6, none⟩ (.int .u64 (uu.at_ : Int))).setCell ⟨m, 7, none⟩ (.int .u64 (uu.lease : Int))) m X.d { M with count := M.count + 1, v := uu } ⟨Au, nu, cu⟩ := (((((((h6.man.store 8 (.int .i64 ((M.count : Int) + 1))).store 2 (.int .i64 uu.log)).store 3 (.slice Au nu cu)).store 4 (.int .u64 (uu.floor : Int))).store 5 (.int .u64 (uu.cert : Int))).store 6 (.int .u64 (uu.at_ : Int))).store 7 (.int .u64 (uu.lease : Int)))
      have hcm6 : Chg [m] w6 (((((((w6.setCell ⟨m, 8, none⟩ (.int .i64 ((M.count : Int) + 1))).setCell ⟨m, 2, none⟩ (.int .i64 uu.log)).setCell ⟨m, 3, none⟩ (.slice Au nu cu)).setCell ⟨m, 4, none⟩ (.int .u64 (uu.floor : Int))).setCell ⟨m, 5, none⟩ (.int .u64 (uu.cert : Int))).setCell ⟨m, 6, none⟩ (.int .u64 (uu.at_ : Int))).setCell ⟨m, 7, none⟩ (.int .u64 (uu.lease : Int))) := ((((((((Chg.refl [m] w6).setCell _ (.inl (by simp))).setCell _ (.inl (by simp))).setCell _ (.inl (by simp))).setCell _ (.inl (by simp))).setCell _ (.inl (by simp))).setCell _ (.inl (by simp))).setCell _ (.inl (by simp)))
      have h7 := Lib.hid (((h3.below (below_drew (Below.refl _ _))).trans h6).turnV hcm6 hmk (hvr6.turn hcm6))
      clear hmk hcm6 hbx6 h6 HAP h4 h3 HB5 HGX hvr6 hrow6 HFR
      have D0 := h7.out.man.cell 0
      have D1 := h7.out.man.cell 1
      simp only [Gs.cells, List.getElem?_cons_zero, List.getElem?_cons_succ] at D0 D1
      go_wp2
      generalize (((((((w6.setCell ⟨m, 8, none⟩ (.int .i64 ((M.count : Int) + 1))).setCell ⟨m, 2, none⟩ (.int .i64 uu.log)).setCell ⟨m, 3, none⟩ (.slice Au nu cu)).setCell ⟨m, 4, none⟩ (.int .u64 (uu.floor : Int))).setCell ⟨m, 5, none⟩ (.int .u64 (uu.cert : Int))).setCell ⟨m, 6, none⟩ (.int .u64 (uu.at_ : Int))).setCell ⟨m, 7, none⟩ (.int .u64 (uu.lease : Int))) = V7 at *
      clear x0 x1 x2 x3 x4 x5 d2 d3 d4 d5 d6 d7 d8 f2 f3 f4 f5 f6 f7 f8 d0 d1
      have h8 := h7.out.below (below_drew (Below.refl _ _))
      have hsy := h8.sync (str M.name) (by rw [str_size]; unfold maxLen; omega)
      rw [list_str] at hsy
      have HSY := Lib.hid hsy
      clear hsy h8
      generalize S1.sync M.name = PP at *
      obtain ⟨S2, e2⟩ := PP
      go_still_tail 8, (by kernel_rfl)
      change wpList _ _ _ _ _ (World.drew V7)
      go_wp2_with fail
      refine HSY.out.mono ?_
      rintro e9 w9 ⟨rfl, X9, h9⟩
      by_cases q2 : e2 = 0
      case neg =>
        have hne := neq0 q2
        have hh : R = (S2, { M with count := M.count + 1, v := uu, broken := true }, e2) := HT3.out.trans (if_pos q2)
        have HH := Lib.hid hh
        clear hh
        go_wp2_with fail
        refine h9.break_.mono ?_
        rintro e10 w10 ⟨rfl, h10⟩
        have hl := Lib.hid (GLeft.mk_ HH.out h10)
        go_wp2
        go_ret
        exact hl.out
      subst q2
      have hl := Lib.hid (GLeft.mk_ (HT3.out.trans (if_neg (by simp))) h9)
      go_wp2
      go_ret
      exact hl.out
end Go.Proofs.YthepokgkfaocmaaGreatDoor
