/- Texts LawD, LawLong in one. No conditions. -/
import Derived.Test.YthepokgkfaocmaaGreatDoorBunT
import Derived.Test.YthepokgkfaocmaaGreatDoorBunV

/-
  A manifest of a chain of changes, from call to call: Save, Open, with what else is kept.
-/
namespace Go.Proofs.YthepokgkfaocmaaGreatDoor
open Go Go.RowKit Go.Shelf
variable {W0 w w1 w2 : World} {X X1 : Dw} {S S1 : Sd} {m m1 n : Nat} {M : Ms} {es : List Bv}

theorem Lst.savec (h : Lst W0 w X S m n es) (hel : es.length ≤ 200) (e : Bv) (he : e.may = true) (hok : ((Bv.run es).app e).ok = true) :
    Calls Tryz.prog 15 #[.pointer (some ⟨m, 0, none⟩), e.ed] w fun r w' => r = .returned (.int .i64 0) ∧ ∃ X' S', X'.d = X.d ∧ Lst W0 w' X' S' m n (es ++ [e]) ∧ S'.load = S.load ∧ Chg ([m] ++ X.foot) w w' ∧ (∀ g ∈ X'.foot, g ∈ X.foot ∨ w.heap.size ≤ g) := by
  have htl := text_len es
  obtain ⟨s1, s2, s3, s4, s5⟩ := Mw.save_rest (M := ⟨Mw.man n, Bv.run es, es.length, false⟩) (n := n) (B := 100000) (t := text es) (e := e) h.calm h.n1 (by have := h.n2; omega) h.rest rfl rfl (by omega) (by omega) (by omega) (by have := h.quota; omega)
  have hsv := save_any e he hok (show es.length ≤ 1000000000 by omega) (man_len n) (h.at_.mst h.env0)
  refine hsv.mono ?_
  rintro r w' ⟨rfl, X', h3⟩
  have hat := h.at_.mst_left h3
  have hxd := h3.acc.e
  generalize Mw.save S ⟨Mw.man n, Bv.run es, es.length, false⟩ e = P at *
  obtain ⟨S2, M2, er⟩ := P
  simp only at s1 s2 s3 s4 s5 hat
  injection s4 with s4 s6
  subst s4 s6
  refine ⟨rfl, X', S2, hxd, ⟨?_, s1, by rw [s2, text_snoc], h.chain.snoc he hok, s3.trans h.quota, h.n1, h.n2, by have := h.load; omega, h.env0⟩, s5, h3.acc.c, h3.acc.f⟩
  rw [Bv.run_snoc, List.length_append]
  exact hat
/-- Open, of a disk at rest, whose man file may have a torn end. -/
theorem open_atc (h : At W0 w X S m M) (hc : Calm S) {tl : List UInt8} (hr : cont S = Mw.rest n (text es ++ tl)) (hch : Chain es) (hq : S.quota = 1048576) (n1 : 1 ≤ n) (n2 : n + 1 ≤ 1000000) (hld : S.load + 70 ≤ 1000000000) (he0 : NG ≤ W0.heap.size) (hel : es.length ≤ 200) (htl : tl.length ≤ 1000) (er : Nat) (her : er = 0 ∨ er = 4)
    (hs : Fr.split (text es ++ tl) = (List.replicate es.length 6, es.map Bv.bytes, (text es).length, er)) :
    Calls Tryz.prog 19 #[.pointer (some ⟨X.d, 0, none⟩)] w fun r w' => ∃ m' X' S' n' es', r = .returned (.tuple #[.pointer (some ⟨m', 0, none⟩), .int .i64 0]) ∧ X'.d = X.d ∧ Lst W0 w' X' S' m' n' es' ∧ Bv.run es' = Bv.run es ∧ es'.length ≤ 30 ∧ n' ≤ n + 1 ∧ S'.load ≤ S.load + 70 ∧ es'.length ≤ es.length ∧ Chg X.foot w w' ∧ (∀ g ∈ X'.foot, g ∈ X.foot ∨ w.heap.size ≤ g) ∧ w.heap.size ≤ m' := by
  have hcur : S.read Mw.kCur = (Mw.headB n, 0) := hc.read Mw.cur_named (by rw [hr, Mw.rest, if_neg (Mw.man_cur n1 (by omega)).symm, if_pos rfl])
  have hmn : S.read (Mn.name Mn.kMan n) = (text es ++ tl, 0) := hc.read (Mw.man_named n1 (by omega)) (by rw [hr]; exact if_pos rfl)
  have htx := text_len es
  have hlen : (text es ++ tl).length = (text es).length + tl.length := List.length_append
  have hop := open_any n n1 (by omega) (text es ++ tl) es (text es).length er hcur hmn (by omega) hs her hch.pos (by omega) hch.may hch.ok (by omega) h.dm (by omega)
  cases hmust : (decide ((text es).length < (text es ++ tl).length) || decide (30 < es.length)) with
  | true =>
    rw [hmust] at hop
    obtain ⟨a1, a2, a3, a4, a5⟩ := rewriteM_rest (M := ⟨Mw.man n, Bv.run es, es.length, false⟩) hc n1 (by omega) hr (by omega) hq rfl
    refine (hop _ (if_pos rfl).symm (congrArg Prod.snd a4)).mono ?_
    rintro r w' ⟨m', X', rfl, hb⟩
    have hb' : Born X w (Mw.rewriteM S ⟨Mw.man n, Bv.run es, es.length, false⟩).1 (Mw.rewriteM S ⟨Mw.man n, Bv.run es, es.length, false⟩).2.1 m' w' X' := hb
    have ha := at_born h.low h.bel hb'
    rw [a4] at ha
    refine ⟨m', X', _, n + 1, [Bv.run es], rfl, hb'.e, ⟨?_, a1, by rw [text_one]; exact a2, chain_one hch.run_ok, a3.trans hq, by omega, n2, by omega, he0⟩, run_one _, by simp, Nat.le_refl _, a5, hch.pos, hb'.c, hb'.f, hb'.new⟩
    rw [run_one]
    exact ha
  | false =>
    rw [hmust] at hop
    simp only [Bool.or_eq_false_iff, decide_eq_false_iff_not] at hmust
    obtain ⟨h1, h2⟩ := hmust
    have ht0 : tl = [] := List.eq_nil_of_length_eq_zero (by omega)
    subst ht0
    refine (hop _ (if_neg (by simp)).symm rfl).mono ?_
    rintro r w' ⟨m', X', rfl, hb⟩
    have ha := at_born h.low h.bel hb
    exact ⟨m', X', _, n, es, rfl, hb.e, ⟨ha, hc, by rw [hr, List.append_nil], hch, hq, n1, by omega, show S.load ≤ 1000000000 by omega, he0⟩, rfl, by omega, by omega, show S.load ≤ S.load + 70 by omega, Nat.le_refl _, hb.c, hb.f, hb.new⟩
/-- Open, of a disk at rest. -/
theorem Lst.openc (h : Lst W0 w X S m n es) (hel : es.length ≤ 200) (n2 : n + 1 ≤ 1000000) (hld : S.load + 70 ≤ 1000000000) :
    Calls Tryz.prog 19 #[.pointer (some ⟨X.d, 0, none⟩)] w fun r w' => ∃ m' X' S' n' es', r = .returned (.tuple #[.pointer (some ⟨m', 0, none⟩), .int .i64 0]) ∧ X'.d = X.d ∧ Lst W0 w' X' S' m' n' es' ∧ Bv.run es' = Bv.run es ∧ es'.length ≤ 30 ∧ n' ≤ n + 1 ∧ S'.load ≤ S.load + 70 ∧ es'.length ≤ es.length ∧ Chg X.foot w w' ∧ (∀ g ∈ X'.foot, g ∈ X.foot ∨ w.heap.size ≤ g) ∧ w.heap.size ≤ m' :=
  open_atc h.at_ h.calm (tl := []) (by rw [List.append_nil]; exact h.rest) h.chain h.quota h.n1 n2 hld h.env0 hel (by simp) 0 (.inl rfl) (by rw [List.append_nil]; exact text_split es)
end Go.Proofs.YthepokgkfaocmaaGreatDoor

/-
  The walk of ManLong.
-/
namespace Go.Proofs.YthepokgkfaocmaaGreatDoor
open Go Go.RowKit Go.Shelf
variable {W0 w w1 w2 : World} {X X1 : Dw} {S S1 : Sd} {m m1 n : Nat} {M : Ms} {es : List Bv}

theorem same_fl (k : Nat) (w : World) : Calls Tryz.prog 27 #[.agg #[.int .i64 1, .slice none 0 0, .int .u64 (k : Int), .int .u64 0, .int .u64 0, .int .u64 0], .agg #[.int .i64 1, .slice none 0 0, .int .u64 (k : Int), .int .u64 0, .int .u64 0, .int .u64 0]] w fun e w' => e = .returned (.bool true) ∧ Below w.heap.size w w' := by
  have h := sameview_any ⟨1, [], k, 0, 0, 0⟩ ⟨1, [], k, 0, 0, 0⟩ none 0 0 none 0 0 w (by omega) (by omega) Row.nil_ Row.nil_
  rw [Vw.same_self] at h
  exact h
theorem rest_small {t : List UInt8} (hr : cont S = Mw.rest n t) (ht : t.length ≤ 100000) : Small S [Mw.man n, Mw.kCur] 100000 := by
  constructor
  · intro s x hx
    rw [hr] at hx
    unfold Mw.rest at hx
    split at hx
    · subst_vars; simp
    · split at hx
      · subst_vars; simp
      · cases hx
  · intro s x hx
    rw [hr] at hx
    unfold Mw.rest at hx
    have := headB_len n
    split at hx
    · injection hx with hx; subst hx; omega
    · split at hx
      · injection hx with hx; subst hx; omega
      · cases hx
theorem rest_list (h : Calm S) {t : List UInt8} (hr : cont S = Mw.rest n t) (ht : t.length ≤ 100000) : S.list.length ≤ 2 := by
  obtain ⟨h1, _⟩ := h.length_names (rest_small hr ht)
  unfold Sd.list
  rw [if_neg (by simp [h.dead]), List.length_mergeSort, List.length_map]
  simpa using h1
/-- A block of another's has changed. -/
theorem Lst.out {v : Nat} (h : Lst W0 w X S m n es) (c : Chg [v] w w1) (hv : v ∉ X.foot) (hm : v ≠ m) (hb : W0.heap.size ≤ v) : Lst W0 w1 X S m n es :=
  { h with at_ := ⟨h.at_.dm.chg c (fun g hg => by
      obtain rfl : g = v := by simpa using hg
      exact ⟨hv, Nat.le_trans h.env0 hb⟩), h.at_.man.chg c (by simpa using fun e => hm e.symm), h.at_.away, h.at_.low, h.at_.lowm, h.at_.bel.trans (c.below h.at_.bel.size (fun g hg => by
      obtain rfl : g = v := by simpa using hg
      exact hb))⟩ }
def flCells (k : Nat) : List Value := [.int .i64 1, .slice none 0 0, .int .u64 (k : Int), .int .u64 0, .int .u64 0, .int .u64 0]
set_option maxRecDepth 100000 in
set_option maxHeartbeats 4000000 in
theorem manLong_walk (n wh : Int) (w : World) (he : Env w) :
    Calls Tryz.prog 6 #[.int .i64 n, .int .i64 wh] w fun e w' => e = .returned (.bool true) ∧ Below w.heap.size w w' := by
  obtain ⟨mn, hmn, hmn1⟩ := and_mask n 7 (by omega)
  have hmn' : bits .and .i64 n 127 = (mn : Int) := hmn
  clear hmn
  have hdn := dnew_any 1048576 w
  go_enter Tryz.func6, Tryz.ntmps6
  go_wp2_with fail
  refine hdn.mono ?_
  rintro e w1 ⟨X, rfl, hdk, hb1, hfo⟩
  have hdm := dm_new (by omega) he hdk hb1 hfo
  have hnew := mnew_any v1 (by decide) (by decide) hdm _ rfl new_eq
  rw [v1_vw] at hnew
  have HFO := Lib.hid hfo
  have HNEW := Lib.hid hnew
  clear hdn hdk hnew hfo
  go_wp2_with fail
  refine HNEW.out.mono ?_
  rintro e w2 ⟨m, X2, rfl, hbn⟩
  obtain ⟨S0, hL0, hld0⟩ := Lst.start he hb1 HFO.out hbn
  have hW2 := hL0.at_.bel.size
  have hx2 := hbn.e
  have hm0 := hL0.at_.man.lt
  have hfl := hL0.at_.dm.dk.lt
  clear hbn HNEW HFO hdm
  generalize X.d = d0 at *
  go_wp2_with fail
  have hbx := BoxO.new w2 (flCells 0).toArray 31
  have hLa := hL0.below ((Below.refl w2.heap.size w2).alloc (Nat.le_refl _) (.cells (flCells 0).toArray 31))
  obtain ⟨vb, hvb⟩ : ∃ vb, vb = w2.heap.size := ⟨_, rfl⟩
  rw [← hvb] at hbx hm0 hfl
  have hvo : vb ∉ X2.foot := fun h => by have := hfl _ h; omega
  have hvm : vb ≠ m := by omega
  simp only [← hvb]
  clear hL0 hfl hm0 hb1
  have hvl : w.heap.size ≤ vb := by rw [hvb]; exact hW2
  clear hvb
  go_loopw [6, 9] (fun mp i wr => ∃ (k m n' : Nat) (es : List Bv) (X' : Dw) (S' : Sd), k ≤ 100 ∧ mp = .pointer (some ⟨m, 0, none⟩) ∧ i = .int .i64 (k : Int) ∧ X'.d = d0 ∧ Lst w wr X' S' m n' es ∧ S'.load ≤ 70 + 70 * k ∧ n' ≤ 1 + k ∧ es.length ≤ 1 + k ∧ Hid (Bv.run es = fl k) ∧ BoxO wr 31 vb (flCells k) ∧ Hid (vb ∉ X'.foot ∧ vb ≠ m)) (fun _ i _ => 100 - (intOf i).toNat)
  case atStart => exact ⟨0, m, 1, [v1], X2, S0, by omega, rfl, rfl, hx2, hLa, by omega, by omega, by simp, Lib.hid rfl, hbx, Lib.hid ⟨hvo, hvm⟩⟩
  case round =>
    obtain ⟨k, m, n', es, X', S', hk, rfl, rfl, hxd, hL, hld, hn', hel, hru, hB, hvo⟩ := hrel
    clear hLa hbx hx2 hld0 hvm
    unfold flCells at hB
    by_cases hlt : k < mn ∧ k < 100
    · obtain ⟨hlt1, hlt2⟩ := hlt
      have hlt3 : (k : Int) < 100 := by omega
      have hkw : IntKind.u64.wrap (k : Int) = (k : Int) := by rw [IntKind.wrap_u64]; omega
      have q2 := hB.cell 2
      have z2 := hB.free 2
      simp only [List.getElem?_cons_zero, List.getElem?_cons_succ] at q2
      have hblt := hB.lt
      obtain ⟨hvo1, hvo2⟩ := hvo.out
      have hL1 := (hL.out (chg_set wr ⟨vb, 2, none⟩ (.int .u64 ((k : Int) + 1))) hvo1 hvo2 hvl).below ((Below.refl _ _).alloc (Nat.le_refl _) (.cells #[.slice none 0 0, .slice none 0 0, .int .i64 0, .int .u64 ((k : Int) + 1), .int .u64 0, .int .u64 0, .int .u64 0] 39))
      have hB1 : BoxO _ _ _ _ := (hB.store 2 (.int .u64 ((k : Int) + 1))).alloc (.cells #[.slice none 0 0, .slice none 0 0, .int .i64 0, .int .u64 ((k : Int) + 1), .int .u64 0, .int .u64 0, .int .u64 0] 39)
      simp only [List.set_cons_succ, List.set_cons_zero] at hB1
      clear hL hvo
      go_wp2_with fail
      generalize ((wr.setCell ⟨vb, 2, none⟩ (.int .u64 ((k : Int) + 1))).alloc (.cells #[.slice none 0 0, .slice none 0 0, .int .i64 0, .int .u64 ((k : Int) + 1), .int .u64 0, .int .u64 0, .int .u64 0] 39)) = W at *
      have hsv := hL1.savec (by omega) (eF (k + 1)) (eF_may _ (by omega)) (by rw [hru.out, fl_app _ _ (by omega)]; exact fl_ok _ (by omega))
      rw [eF_ed, show ((k + 1 : Nat) : Int) = (k : Int) + 1 from rfl] at hsv
      refine hsv.mono ?_
      rintro e w5 ⟨rfl, X5, S5, hx5, hL5, hld5, hc5, hf5⟩
      have hB5 := hB1.chg hc5 (by simp; exact ⟨hvo2, hvo1⟩)
      have hvo5 : vb ∉ X5.foot := fun h => by
        rcases hf5 _ h with h1 | h1
        · exact hvo1 h1
        · have := hB1.lt
          omega
      have hru5 : Bv.run (es ++ [eF (k + 1)]) = fl (k + 1) := by rw [Bv.run_snoc, hru.out, fl_app _ _ (by omega)]
      have hel5 : (es ++ [eF (k + 1)]).length ≤ 2 + k := by simp; omega
      have hx5' := hx5.trans hxd
      have hld5' : S5.load ≤ 70 + 70 * k := by omega
      obtain ⟨es5, hes5⟩ : ∃ es5, es5 = es ++ [eF (k + 1)] := ⟨_, rfl⟩
      rw [← hes5] at hL5 hru5 hel5
      have HRU5 := Lib.hid hru5
      obtain ⟨kk, hkk, hkk1⟩ := and_mask (k : Int) 4 (by omega)
      have hkk' : bits .and .i64 (k : Int) 15 = (kk : Int) := hkk
      clear hsv hB1 hL1 hc5 hf5 hru5 hes5 hkk hvo1 hx5 hld5 hru q2 z2 hB
      obtain ⟨mb, hmb, hmb1⟩ := and_mask (wh / 2 ^ kk) 1 (by omega)
      have hmb' : bits .and .i64 (wh / 2 ^ kk) 1 = (mb : Int) := hmb
      have hmb2 : mb = 0 ∨ mb = 1 := by omega
      clear hmb hmb1
      go_upto_if 56 with (fail)
      go_cut [6] (fun mp wx => ∃ (m n' : Nat) (es : List Bv) (X' : Dw) (S' : Sd), mp = .pointer (some ⟨m, 0, none⟩) ∧ X'.d = d0 ∧ Lst w wx X' S' m n' es ∧ S'.load ≤ 70 + 70 * (k + 1) ∧ n' ≤ 1 + (k + 1) ∧ es.length ≤ 1 + (k + 1) ∧ Hid (Bv.run es = fl (k + 1)) ∧ BoxO wx 31 vb (flCells (k + 1)) ∧ Hid (vb ∉ X'.foot ∧ vb ≠ m))
      case first =>
        rcases hmb2 with rfl | rfl
        · go_wp2_with fail
          go_meet
          exact ⟨m, n', es5, X5, S5, rfl, hx5', hL5, by omega, by omega, by omega, HRU5, hB5, Lib.hid ⟨hvo5, hvo2⟩⟩
        · have hop := hL5.openc (by omega) (by omega) (by omega)
          rw [hx5'] at hop
          go_wp2_with fail
          refine hop.mono ?_
          rintro e w6 ⟨m6, X6, S6, n6, es6, rfl, hx6, hL6, hrun6, hel6, hn6, hld6, hel6', hc6, hf6, hm6⟩
          have hB6 := hB5.chg hc6 hvo5
          have hvb5 := hB5.lt
          have hvo6 : vb ∉ X6.foot := fun h => by
            rcases hf6 _ h with h1 | h1
            · exact hvo5 h1
            · omega
          have hct := mcount_any X6.d hL6.at_.man
          have HR6 := Lib.hid (hrun6.trans HRU5.out)
          obtain ⟨cc, hcc⟩ : ∃ cc, cc = es6.length := ⟨_, rfl⟩
          simp only [← hcc] at hct
          have hcc30 : ¬ (30 : Int) < (cc : Int) := by omega
          have HCC := Lib.hid hcc
          clear hop hrun6 hc6 hf6 hcc
          go_wp2_with fail
          refine hct.mono ?_
          rintro e w7 ⟨rfl, rfl⟩
          clear hct
          go_wp2_with fail
          go_meet
          exact ⟨m6, n6, es6, X6, S6, rfl, hx6, hL6, by omega, by omega, by omega, HR6, hB6, Lib.hid ⟨hvo6, by omega⟩⟩
      case rest =>
        obtain ⟨m6, n6, es6, X6, S6, rfl, hx6, hL6, hld6, hn6, hel6, hru6, hB6, hvo6⟩ := hcut
        clear hmb' hmb2 hB5 hvo5 hx5' hld5' hel5 hL5 HRU5 hkk'
        unfold flCells at hB6
        rw [show ((k + 1 : Nat) : Int) = (k : Int) + 1 from rfl] at hB6
        have hvb6 := hB6.lt
        have hbc : ∀ w2, Below wc.heap.size wc.drew w2 → w2.cell? ⟨vb, 0, none⟩ = some (.int .i64 1) ∧ w2.cell? ⟨vb, 1, none⟩ = some (.slice none 0 0) ∧ w2.cell? ⟨vb, 2, none⟩ = some (.int .u64 ((k : Int) + 1)) ∧ w2.cell? ⟨vb, 3, none⟩ = some (.int .u64 0) ∧ w2.cell? ⟨vb, 4, none⟩ = some (.int .u64 0) ∧ w2.cell? ⟨vb, 5, none⟩ = some (.int .u64 0) := fun w2 h => by
          have hb := hB6.drew.below h
          exact ⟨hb.cell 0, hb.cell 1, hb.cell 2, hb.cell 3, hb.cell 4, hb.cell 5⟩
        have HBC := Lib.hid hbc
        obtain ⟨b0, b1, b2, b3, b4, b5⟩ := hbc _ (Below.refl _ _)
        have hvw : Calls Tryz.prog 20 #[.pointer (some ⟨m6, 0, none⟩)] wc.drew fun e w' => e = .returned (.agg #[.int .i64 1, .slice none 0 0, .int .u64 ((k : Int) + 1), .int .u64 0, .int .u64 0, .int .u64 0]) ∧ Below wc.heap.size wc.drew w' := by
          have hv := mview_any (w := wc.drew) X6.d hL6.at_.man
          have hvv : (⟨Mw.man n6, Bv.run es6, es6.length, false⟩ : Ms).v.vw = .agg #[.int .i64 1, .slice none 0 0, .int .u64 ((k : Int) + 1), .int .u64 0, .int .u64 0, .int .u64 0] := by
            show (Bv.run es6).vw = _
            rw [hru6.out]
            rfl
          rwa [hvv] at hv
        have HVW := Lib.hid hvw
        clear hbc hvw
        go_wp2_with fail
        go_region_with (first
          | (go_at_call 20; refine (HVW.out).mono ?_; rintro e w2 ⟨rfl, hb2⟩; obtain ⟨c0, c1, c2, c3, c4, c5⟩ := HBC.out w2 hb2)
          | (go_at_call 27; refine (same_fl (k + 1) _).mono ?_; rintro e w3 ⟨rfl, hb3⟩))
        all_goals
          have hbe := ((Below.refl wc.heap.size wc).drew.trans hb2).trans (hb3.mono hb2.size)
          have hL7 := hL6.below hbe
          have hB7 := hB6.below hbe
          clear hb2 hb3 hbe c0 c1 c2 c3 c4 c5 b0 b1 b2 b3 b4 b5 HBC HVW hL6 hB6
          go_wp2_with fail
          go_roundw
          case rel => exact ⟨k + 1, m6, n6, es6, X6, S6, by omega, rfl, by go_num, hx6, hL7, hld6, hn6, hel6, hru6, hB7, hvo6⟩
          case measure => simp [intOf]; omega
    · have hop := hL.openc (by omega) (by omega) (by omega)
      rw [hxd] at hop
      obtain ⟨hvo1, hvo2⟩ := hvo.out
      have hvb5 := hB.lt
      rcases (by omega : (k < mn ∧ ¬ (k : Int) < 100) ∨ ¬ k < mn) with ⟨ht1, ht2⟩ | ht1
      · clear hlt
        go_wp2_with fail
        refine hop.mono ?_
        rintro e w6 ⟨m6, X6, S6, n6, es6, rfl, hx6, hL6, hrun6, hel6, hn6, hld6, hel6', hc6, hf6, hm6⟩
        have hB6 := hB.chg hc6 hvo1
        have hru6 := hrun6.trans hru.out
        have HRU6 := Lib.hid hru6
        have hls := (Acc.start (F := []) hL6.at_.dm).list
        have hll := rest_list hL6.calm hL6.rest (by have := text_len es6; omega)
        rw [hx6] at hls
        obtain ⟨ll, hle⟩ : ∃ ll, ll = S6.list.length := ⟨_, rfl⟩
        rw [← hle] at hls hll
        have HLE := Lib.hid hle
        have HLS := Lib.hid hls
        clear hop hrun6 hru6 hc6 hf6 hm6 hle hls hL hB
        go_wp2_with fail
        refine HLS.out.mono ?_
        rintro e w7 ⟨lA, lc, rfl, -, hb7⟩
        have hL7 := hL6.below hb7
        have hB7 := hB6.below hb7
        clear HLS hb7 hL6 hB6
        have hll3 : (ll : Int) ≤ 3 := by omega
        unfold flCells at hB7
        have hbc : ∀ w2, Below w7.heap.size w7.drew w2 → w2.cell? ⟨vb, 0, none⟩ = some (.int .i64 1) ∧ w2.cell? ⟨vb, 1, none⟩ = some (.slice none 0 0) ∧ w2.cell? ⟨vb, 2, none⟩ = some (.int .u64 (k : Int)) ∧ w2.cell? ⟨vb, 3, none⟩ = some (.int .u64 0) ∧ w2.cell? ⟨vb, 4, none⟩ = some (.int .u64 0) ∧ w2.cell? ⟨vb, 5, none⟩ = some (.int .u64 0) := fun w2 h => by
          have hb := hB7.drew.below h
          exact ⟨hb.cell 0, hb.cell 1, hb.cell 2, hb.cell 3, hb.cell 4, hb.cell 5⟩
        have HBC := Lib.hid hbc
        obtain ⟨b0, b1, b2, b3, b4, b5⟩ := hbc _ (Below.refl _ _)
        have hvw : Calls Tryz.prog 20 #[.pointer (some ⟨m6, 0, none⟩)] w7.drew fun e w' => e = .returned (.agg #[.int .i64 1, .slice none 0 0, .int .u64 (k : Int), .int .u64 0, .int .u64 0, .int .u64 0]) ∧ Below w7.heap.size w7.drew w' := by
          have hv := mview_any (w := w7.drew) X6.d hL7.at_.man
          have hvv : (⟨Mw.man n6, Bv.run es6, es6.length, false⟩ : Ms).v.vw = .agg #[.int .i64 1, .slice none 0 0, .int .u64 (k : Int), .int .u64 0, .int .u64 0, .int .u64 0] := by
            show (Bv.run es6).vw = _
            rw [HRU6.out]
            rfl
          rwa [hvv] at hv
        have HVW := Lib.hid hvw
        have haw : ∀ w2, Below w7.heap.size w7.drew w2 → Env w2 := fun w2 h => (hL7.at_.dm.env.below ((Below.refl w7.heap.size w7).drew.trans h))
        have HAW := Lib.hid haw
        have hbel := hL7.at_.bel
        clear hbc hvw haw
        go_wp2_with fail
        refine wp_region_any (by kernel_rfl) ?_
        change wpAny _ _ _ _ _ _ _ (World.drew w7)
        refine wpAny_take (i := 0) (v := ?vxa0) rfl (by kernel_rfl) (by kernel_rfl) (by kernel_rfl) (fun _ _ _ h => h) (Or.inl ⟨by rfl, ?hxa0⟩) ?kxa0
        case hxa0 => (intro w; go_simp; try (with_reducible rfl))
        go_simp
        refine wpAny_take (i := 1) (v := ?vxa1) rfl (by kernel_rfl) (by kernel_rfl) (by kernel_rfl) (fun _ _ _ h => h) (Or.inl ⟨by rfl, ?hxa1⟩) ?kxa1
        case hxa1 => (intro w; go_simp; try (with_reducible rfl))
        go_simp
        refine wpAny_take (i := 2) (v := ?vxa2) rfl (by kernel_rfl) (by kernel_rfl) (by kernel_rfl) (fun _ _ _ h => h) (Or.inl ⟨by rfl, ?hxa2⟩) ?kxa2
        case hxa2 => (intro w; go_simp; try (with_reducible rfl))
        go_simp
        refine wpAny_take (i := 3) (v := ?vxa3) rfl (by kernel_rfl) (by kernel_rfl) (by kernel_rfl) (fun _ _ _ h => h) (Or.inl ⟨by rfl, ?hxa3⟩) ?kxa3
        case hxa3 => (intro w; go_simp; try (with_reducible rfl))
        go_simp
        refine wpAny_take (i := 4) (v := ?vxa4) rfl (by kernel_rfl) (by kernel_rfl) (by kernel_rfl) (fun _ _ _ h => h) (Or.inl ⟨by rfl, ?hxa4⟩) ?kxa4
        case hxa4 => (intro w; go_simp; try (with_reducible rfl))
        go_simp
        refine wpAny_take (i := 5) (v := ?vxa5) rfl (by kernel_rfl) (by kernel_rfl) (by kernel_rfl) (fun _ _ _ h => h) (Or.inl ⟨by rfl, ?hxa5⟩) ?kxa5
        case hxa5 => (intro w; go_simp; try (with_reducible rfl))
        go_simp
        refine wpAny_take (i := 6) (v := ?vxa6) rfl (by kernel_rfl) (by kernel_rfl) (by kernel_rfl) (fun _ _ _ h => h) (Or.inl ⟨by rfl, ?hxa6⟩) ?kxa6
        case hxa6 => (intro w; go_simp; try (with_reducible rfl))
        go_simp
        refine wpAny_take (i := 7) (v := ?vxa7) rfl (by kernel_rfl) (by kernel_rfl) (by kernel_rfl) (fun _ _ _ h => h) (Or.inl ⟨by rfl, ?hxa7⟩) ?kxa7
        case hxa7 => (intro w; go_simp; try (with_reducible rfl))
        go_simp
        refine wpAny_ready (rs := [8, 9]) (by kernel_rfl) (by simp) ?_
        refine AllReady.cons rfl (fun K hK => ?_) (AllReady.cons rfl (fun K hK => ?_) AllReady.nil)
        · go_simp
          refine HVW.out.mono ?_
          rintro e w2 ⟨rfl, hb2⟩
          obtain ⟨c0, c1, c2, c3, c4, c5⟩ := HBC.out w2 hb2
          refine hK _ _ ?_
          clear hK K
          refine wpAny_ready (rs := [9]) (by kernel_rfl) (by simp) ?_
          refine AllReady.cons rfl (fun K hK => ?_) AllReady.nil
          go_simp
          refine hK _ _ ?_
          clear hK K
          refine wpAny_ready (rs := [10]) (by kernel_rfl) (by simp) ?_
          refine AllReady.cons rfl (fun K hK => ?_) AllReady.nil
          go_simp
          refine (same_fl k _).mono ?_
          rintro e w3 ⟨rfl, hb3⟩
          refine hK _ _ ?_
          clear hK K
          refine wpAny_take (i := 11) (v := ?vxb11) rfl (by kernel_rfl) (by kernel_rfl) (by kernel_rfl) (fun _ _ _ h => h) (Or.inl ⟨by rfl, ?hxb11⟩) ?kxb11
          case hxb11 => (intro w; go_simp; try (with_reducible rfl))
          go_simp
          refine wpAny_take (i := 12) (v := ?vxb12) rfl (by kernel_rfl) (by kernel_rfl) (by kernel_rfl) (fun _ _ _ h => h) (Or.inl ⟨by rfl, ?hxb12⟩) ?kxb12
          case hxb12 => (intro w; go_simp; try (with_reducible rfl))
          go_simp
          refine wpAny_take (i := 13) (v := ?vxb13) rfl (by kernel_rfl) (by kernel_rfl) (by kernel_rfl) (fun _ _ _ h => h) (Or.inl ⟨by rfl, ?hxb13⟩) ?kxb13
          case hxb13 => (intro w; go_simp; try (with_reducible rfl))
          go_simp
          refine wpAny_take (i := 14) (v := ?vxb14) rfl (by kernel_rfl) (by kernel_rfl) (by kernel_rfl) (fun _ _ _ h => h) (Or.inl ⟨by rfl, ?hxb14⟩) ?kxb14
          case hxb14 => (intro w; go_simp; try (with_reducible rfl))
          go_simp
          refine wpAny_take (i := 15) (v := ?vxb15) rfl (by kernel_rfl) (by kernel_rfl) (by kernel_rfl) (fun _ _ _ h => h) (Or.inl ⟨by rfl, ?hxb15⟩) ?kxb15
          case hxb15 => (intro w; go_simp; try (with_reducible rfl))
          go_simp
          refine wpAny_take (i := 16) (v := ?vxb16) rfl (by kernel_rfl) (by kernel_rfl) (by kernel_rfl) (fun _ _ _ h => h) (Or.inl ⟨by rfl, ?hxb16⟩) ?kxb16
          case hxb16 => (intro w; go_simp; try (with_reducible rfl))
          go_simp
          refine wpAny_take (i := 17) (v := ?vxb17) rfl (by kernel_rfl) (by kernel_rfl) (by kernel_rfl) (fun _ _ _ h => h) (Or.inl ⟨by rfl, ?hxb17⟩) ?kxb17
          case hxb17 => (intro w; go_simp; try (with_reducible rfl))
          go_simp
          refine wpAny_ready (rs := [18]) (by kernel_rfl) (by simp) ?_
          refine AllReady.cons rfl (fun K hK => ?_) AllReady.nil
          go_simp
          refine (awake_any _ (HAW.out _ (hb2.trans (hb3.mono hb2.size)))).mono ?_
          rintro e w4 ⟨rfl, hb4⟩
          refine hK _ _ ?_
          clear hK K
          refine wpAny_take (i := 19) (v := ?vxb19) rfl (by kernel_rfl) (by kernel_rfl) (by kernel_rfl) (fun _ _ _ h => h) (Or.inl ⟨by rfl, ?hxb19⟩) ?kxb19
          case hxb19 => (intro w; go_simp; try (with_reducible rfl))
          go_simp
          refine wpAny_take (i := 20) (v := ?vxb20) rfl (by kernel_rfl) (by kernel_rfl) (by kernel_rfl) (fun _ _ _ h => h) (Or.inl ⟨by rfl, ?hxb20⟩) ?kxb20
          case hxb20 => (intro w; go_simp; try (with_reducible rfl))
          go_simp
          refine wpAny_done (by kernel_rfl) ?_ _
          have hbe := later_ hbel (((Below.refl w7.heap.size w7).drew.trans hb2).trans ((hb3.mono hb2.size).trans (hb4.mono (Nat.le_trans hb2.size hb3.size))))
          go_wp2_with fail
          go_ret
          exact ⟨rfl, hbe⟩
        · go_simp
          refine hK _ _ ?_
          clear hK K
          refine wpAny_ready (rs := [8]) (by kernel_rfl) (by simp) ?_
          refine AllReady.cons rfl (fun K hK => ?_) AllReady.nil
          go_simp
          refine HVW.out.mono ?_
          rintro e w2 ⟨rfl, hb2⟩
          obtain ⟨c0, c1, c2, c3, c4, c5⟩ := HBC.out w2 hb2
          refine hK _ _ ?_
          clear hK K
          refine wpAny_ready (rs := [10]) (by kernel_rfl) (by simp) ?_
          refine AllReady.cons rfl (fun K hK => ?_) AllReady.nil
          go_simp
          refine (same_fl k _).mono ?_
          rintro e w3 ⟨rfl, hb3⟩
          refine hK _ _ ?_
          clear hK K
          refine wpAny_take (i := 11) (v := ?vxc11) rfl (by kernel_rfl) (by kernel_rfl) (by kernel_rfl) (fun _ _ _ h => h) (Or.inl ⟨by rfl, ?hxc11⟩) ?kxc11
          case hxc11 => (intro w; go_simp; try (with_reducible rfl))
          go_simp
          refine wpAny_take (i := 12) (v := ?vxc12) rfl (by kernel_rfl) (by kernel_rfl) (by kernel_rfl) (fun _ _ _ h => h) (Or.inl ⟨by rfl, ?hxc12⟩) ?kxc12
          case hxc12 => (intro w; go_simp; try (with_reducible rfl))
          go_simp
          refine wpAny_take (i := 13) (v := ?vxc13) rfl (by kernel_rfl) (by kernel_rfl) (by kernel_rfl) (fun _ _ _ h => h) (Or.inl ⟨by rfl, ?hxc13⟩) ?kxc13
          case hxc13 => (intro w; go_simp; try (with_reducible rfl))
          go_simp
          refine wpAny_take (i := 14) (v := ?vxc14) rfl (by kernel_rfl) (by kernel_rfl) (by kernel_rfl) (fun _ _ _ h => h) (Or.inl ⟨by rfl, ?hxc14⟩) ?kxc14
          case hxc14 => (intro w; go_simp; try (with_reducible rfl))
          go_simp
          refine wpAny_take (i := 15) (v := ?vxc15) rfl (by kernel_rfl) (by kernel_rfl) (by kernel_rfl) (fun _ _ _ h => h) (Or.inl ⟨by rfl, ?hxc15⟩) ?kxc15
          case hxc15 => (intro w; go_simp; try (with_reducible rfl))
          go_simp
          refine wpAny_take (i := 16) (v := ?vxc16) rfl (by kernel_rfl) (by kernel_rfl) (by kernel_rfl) (fun _ _ _ h => h) (Or.inl ⟨by rfl, ?hxc16⟩) ?kxc16
          case hxc16 => (intro w; go_simp; try (with_reducible rfl))
          go_simp
          refine wpAny_take (i := 17) (v := ?vxc17) rfl (by kernel_rfl) (by kernel_rfl) (by kernel_rfl) (fun _ _ _ h => h) (Or.inl ⟨by rfl, ?hxc17⟩) ?kxc17
          case hxc17 => (intro w; go_simp; try (with_reducible rfl))
          go_simp
          refine wpAny_ready (rs := [18]) (by kernel_rfl) (by simp) ?_
          refine AllReady.cons rfl (fun K hK => ?_) AllReady.nil
          go_simp
          refine (awake_any _ (HAW.out _ (hb2.trans (hb3.mono hb2.size)))).mono ?_
          rintro e w4 ⟨rfl, hb4⟩
          refine hK _ _ ?_
          clear hK K
          refine wpAny_take (i := 19) (v := ?vxc19) rfl (by kernel_rfl) (by kernel_rfl) (by kernel_rfl) (fun _ _ _ h => h) (Or.inl ⟨by rfl, ?hxc19⟩) ?kxc19
          case hxc19 => (intro w; go_simp; try (with_reducible rfl))
          go_simp
          refine wpAny_take (i := 20) (v := ?vxc20) rfl (by kernel_rfl) (by kernel_rfl) (by kernel_rfl) (fun _ _ _ h => h) (Or.inl ⟨by rfl, ?hxc20⟩) ?kxc20
          case hxc20 => (intro w; go_simp; try (with_reducible rfl))
          go_simp
          refine wpAny_done (by kernel_rfl) ?_ _
          have hbe := later_ hbel (((Below.refl w7.heap.size w7).drew.trans hb2).trans ((hb3.mono hb2.size).trans (hb4.mono (Nat.le_trans hb2.size hb3.size))))
          go_wp2_with fail
          go_ret
          exact ⟨rfl, hbe⟩
      · clear hlt
        go_wp2_with fail
        refine hop.mono ?_
        rintro e w6 ⟨m6, X6, S6, n6, es6, rfl, hx6, hL6, hrun6, hel6, hn6, hld6, hel6', hc6, hf6, hm6⟩
        have hB6 := hB.chg hc6 hvo1
        have hru6 := hrun6.trans hru.out
        have HRU6 := Lib.hid hru6
        have hls := (Acc.start (F := []) hL6.at_.dm).list
        have hll := rest_list hL6.calm hL6.rest (by have := text_len es6; omega)
        rw [hx6] at hls
        obtain ⟨ll, hle⟩ : ∃ ll, ll = S6.list.length := ⟨_, rfl⟩
        rw [← hle] at hls hll
        have HLE := Lib.hid hle
        have HLS := Lib.hid hls
        clear hop hrun6 hru6 hc6 hf6 hm6 hle hls hL hB
        go_wp2_with fail
        refine HLS.out.mono ?_
        rintro e w7 ⟨lA, lc, rfl, -, hb7⟩
        have hL7 := hL6.below hb7
        have hB7 := hB6.below hb7
        clear HLS hb7 hL6 hB6
        have hll3 : (ll : Int) ≤ 3 := by omega
        unfold flCells at hB7
        have hbc : ∀ w2, Below w7.heap.size w7.drew w2 → w2.cell? ⟨vb, 0, none⟩ = some (.int .i64 1) ∧ w2.cell? ⟨vb, 1, none⟩ = some (.slice none 0 0) ∧ w2.cell? ⟨vb, 2, none⟩ = some (.int .u64 (k : Int)) ∧ w2.cell? ⟨vb, 3, none⟩ = some (.int .u64 0) ∧ w2.cell? ⟨vb, 4, none⟩ = some (.int .u64 0) ∧ w2.cell? ⟨vb, 5, none⟩ = some (.int .u64 0) := fun w2 h => by
          have hb := hB7.drew.below h
          exact ⟨hb.cell 0, hb.cell 1, hb.cell 2, hb.cell 3, hb.cell 4, hb.cell 5⟩
        have HBC := Lib.hid hbc
        obtain ⟨b0, b1, b2, b3, b4, b5⟩ := hbc _ (Below.refl _ _)
        have hvw : Calls Tryz.prog 20 #[.pointer (some ⟨m6, 0, none⟩)] w7.drew fun e w' => e = .returned (.agg #[.int .i64 1, .slice none 0 0, .int .u64 (k : Int), .int .u64 0, .int .u64 0, .int .u64 0]) ∧ Below w7.heap.size w7.drew w' := by
          have hv := mview_any (w := w7.drew) X6.d hL7.at_.man
          have hvv : (⟨Mw.man n6, Bv.run es6, es6.length, false⟩ : Ms).v.vw = .agg #[.int .i64 1, .slice none 0 0, .int .u64 (k : Int), .int .u64 0, .int .u64 0, .int .u64 0] := by
            show (Bv.run es6).vw = _
            rw [HRU6.out]
            rfl
          rwa [hvv] at hv
        have HVW := Lib.hid hvw
        have haw : ∀ w2, Below w7.heap.size w7.drew w2 → Env w2 := fun w2 h => (hL7.at_.dm.env.below ((Below.refl w7.heap.size w7).drew.trans h))
        have HAW := Lib.hid haw
        have hbel := hL7.at_.bel
        clear hbc hvw haw
        go_wp2_with fail
        refine wp_region_any (by kernel_rfl) ?_
        change wpAny _ _ _ _ _ _ _ (World.drew w7)
        refine wpAny_take (i := 0) (v := ?vya0) rfl (by kernel_rfl) (by kernel_rfl) (by kernel_rfl) (fun _ _ _ h => h) (Or.inl ⟨by rfl, ?hya0⟩) ?kya0
        case hya0 => (intro w; go_simp; try (with_reducible rfl))
        go_simp
        refine wpAny_take (i := 1) (v := ?vya1) rfl (by kernel_rfl) (by kernel_rfl) (by kernel_rfl) (fun _ _ _ h => h) (Or.inl ⟨by rfl, ?hya1⟩) ?kya1
        case hya1 => (intro w; go_simp; try (with_reducible rfl))
        go_simp
        refine wpAny_take (i := 2) (v := ?vya2) rfl (by kernel_rfl) (by kernel_rfl) (by kernel_rfl) (fun _ _ _ h => h) (Or.inl ⟨by rfl, ?hya2⟩) ?kya2
        case hya2 => (intro w; go_simp; try (with_reducible rfl))
        go_simp
        refine wpAny_take (i := 3) (v := ?vya3) rfl (by kernel_rfl) (by kernel_rfl) (by kernel_rfl) (fun _ _ _ h => h) (Or.inl ⟨by rfl, ?hya3⟩) ?kya3
        case hya3 => (intro w; go_simp; try (with_reducible rfl))
        go_simp
        refine wpAny_take (i := 4) (v := ?vya4) rfl (by kernel_rfl) (by kernel_rfl) (by kernel_rfl) (fun _ _ _ h => h) (Or.inl ⟨by rfl, ?hya4⟩) ?kya4
        case hya4 => (intro w; go_simp; try (with_reducible rfl))
        go_simp
        refine wpAny_take (i := 5) (v := ?vya5) rfl (by kernel_rfl) (by kernel_rfl) (by kernel_rfl) (fun _ _ _ h => h) (Or.inl ⟨by rfl, ?hya5⟩) ?kya5
        case hya5 => (intro w; go_simp; try (with_reducible rfl))
        go_simp
        refine wpAny_take (i := 6) (v := ?vya6) rfl (by kernel_rfl) (by kernel_rfl) (by kernel_rfl) (fun _ _ _ h => h) (Or.inl ⟨by rfl, ?hya6⟩) ?kya6
        case hya6 => (intro w; go_simp; try (with_reducible rfl))
        go_simp
        refine wpAny_take (i := 7) (v := ?vya7) rfl (by kernel_rfl) (by kernel_rfl) (by kernel_rfl) (fun _ _ _ h => h) (Or.inl ⟨by rfl, ?hya7⟩) ?kya7
        case hya7 => (intro w; go_simp; try (with_reducible rfl))
        go_simp
        refine wpAny_ready (rs := [8, 9]) (by kernel_rfl) (by simp) ?_
        refine AllReady.cons rfl (fun K hK => ?_) (AllReady.cons rfl (fun K hK => ?_) AllReady.nil)
        · go_simp
          refine HVW.out.mono ?_
          rintro e w2 ⟨rfl, hb2⟩
          obtain ⟨c0, c1, c2, c3, c4, c5⟩ := HBC.out w2 hb2
          refine hK _ _ ?_
          clear hK K
          refine wpAny_ready (rs := [9]) (by kernel_rfl) (by simp) ?_
          refine AllReady.cons rfl (fun K hK => ?_) AllReady.nil
          go_simp
          refine hK _ _ ?_
          clear hK K
          refine wpAny_ready (rs := [10]) (by kernel_rfl) (by simp) ?_
          refine AllReady.cons rfl (fun K hK => ?_) AllReady.nil
          go_simp
          refine (same_fl k _).mono ?_
          rintro e w3 ⟨rfl, hb3⟩
          refine hK _ _ ?_
          clear hK K
          refine wpAny_take (i := 11) (v := ?vyb11) rfl (by kernel_rfl) (by kernel_rfl) (by kernel_rfl) (fun _ _ _ h => h) (Or.inl ⟨by rfl, ?hyb11⟩) ?kyb11
          case hyb11 => (intro w; go_simp; try (with_reducible rfl))
          go_simp
          refine wpAny_take (i := 12) (v := ?vyb12) rfl (by kernel_rfl) (by kernel_rfl) (by kernel_rfl) (fun _ _ _ h => h) (Or.inl ⟨by rfl, ?hyb12⟩) ?kyb12
          case hyb12 => (intro w; go_simp; try (with_reducible rfl))
          go_simp
          refine wpAny_take (i := 13) (v := ?vyb13) rfl (by kernel_rfl) (by kernel_rfl) (by kernel_rfl) (fun _ _ _ h => h) (Or.inl ⟨by rfl, ?hyb13⟩) ?kyb13
          case hyb13 => (intro w; go_simp; try (with_reducible rfl))
          go_simp
          refine wpAny_take (i := 14) (v := ?vyb14) rfl (by kernel_rfl) (by kernel_rfl) (by kernel_rfl) (fun _ _ _ h => h) (Or.inl ⟨by rfl, ?hyb14⟩) ?kyb14
          case hyb14 => (intro w; go_simp; try (with_reducible rfl))
          go_simp
          refine wpAny_take (i := 15) (v := ?vyb15) rfl (by kernel_rfl) (by kernel_rfl) (by kernel_rfl) (fun _ _ _ h => h) (Or.inl ⟨by rfl, ?hyb15⟩) ?kyb15
          case hyb15 => (intro w; go_simp; try (with_reducible rfl))
          go_simp
          refine wpAny_take (i := 16) (v := ?vyb16) rfl (by kernel_rfl) (by kernel_rfl) (by kernel_rfl) (fun _ _ _ h => h) (Or.inl ⟨by rfl, ?hyb16⟩) ?kyb16
          case hyb16 => (intro w; go_simp; try (with_reducible rfl))
          go_simp
          refine wpAny_take (i := 17) (v := ?vyb17) rfl (by kernel_rfl) (by kernel_rfl) (by kernel_rfl) (fun _ _ _ h => h) (Or.inl ⟨by rfl, ?hyb17⟩) ?kyb17
          case hyb17 => (intro w; go_simp; try (with_reducible rfl))
          go_simp
          refine wpAny_ready (rs := [18]) (by kernel_rfl) (by simp) ?_
          refine AllReady.cons rfl (fun K hK => ?_) AllReady.nil
          go_simp
          refine (awake_any _ (HAW.out _ (hb2.trans (hb3.mono hb2.size)))).mono ?_
          rintro e w4 ⟨rfl, hb4⟩
          refine hK _ _ ?_
          clear hK K
          refine wpAny_take (i := 19) (v := ?vyb19) rfl (by kernel_rfl) (by kernel_rfl) (by kernel_rfl) (fun _ _ _ h => h) (Or.inl ⟨by rfl, ?hyb19⟩) ?kyb19
          case hyb19 => (intro w; go_simp; try (with_reducible rfl))
          go_simp
          refine wpAny_take (i := 20) (v := ?vyb20) rfl (by kernel_rfl) (by kernel_rfl) (by kernel_rfl) (fun _ _ _ h => h) (Or.inl ⟨by rfl, ?hyb20⟩) ?kyb20
          case hyb20 => (intro w; go_simp; try (with_reducible rfl))
          go_simp
          refine wpAny_done (by kernel_rfl) ?_ _
          have hbe := later_ hbel (((Below.refl w7.heap.size w7).drew.trans hb2).trans ((hb3.mono hb2.size).trans (hb4.mono (Nat.le_trans hb2.size hb3.size))))
          go_wp2_with fail
          go_ret
          exact ⟨rfl, hbe⟩
        · go_simp
          refine hK _ _ ?_
          clear hK K
          refine wpAny_ready (rs := [8]) (by kernel_rfl) (by simp) ?_
          refine AllReady.cons rfl (fun K hK => ?_) AllReady.nil
          go_simp
          refine HVW.out.mono ?_
          rintro e w2 ⟨rfl, hb2⟩
          obtain ⟨c0, c1, c2, c3, c4, c5⟩ := HBC.out w2 hb2
          refine hK _ _ ?_
          clear hK K
          refine wpAny_ready (rs := [10]) (by kernel_rfl) (by simp) ?_
          refine AllReady.cons rfl (fun K hK => ?_) AllReady.nil
          go_simp
          refine (same_fl k _).mono ?_
          rintro e w3 ⟨rfl, hb3⟩
          refine hK _ _ ?_
          clear hK K
          refine wpAny_take (i := 11) (v := ?vyc11) rfl (by kernel_rfl) (by kernel_rfl) (by kernel_rfl) (fun _ _ _ h => h) (Or.inl ⟨by rfl, ?hyc11⟩) ?kyc11
          case hyc11 => (intro w; go_simp; try (with_reducible rfl))
          go_simp
          refine wpAny_take (i := 12) (v := ?vyc12) rfl (by kernel_rfl) (by kernel_rfl) (by kernel_rfl) (fun _ _ _ h => h) (Or.inl ⟨by rfl, ?hyc12⟩) ?kyc12
          case hyc12 => (intro w; go_simp; try (with_reducible rfl))
          go_simp
          refine wpAny_take (i := 13) (v := ?vyc13) rfl (by kernel_rfl) (by kernel_rfl) (by kernel_rfl) (fun _ _ _ h => h) (Or.inl ⟨by rfl, ?hyc13⟩) ?kyc13
          case hyc13 => (intro w; go_simp; try (with_reducible rfl))
          go_simp
          refine wpAny_take (i := 14) (v := ?vyc14) rfl (by kernel_rfl) (by kernel_rfl) (by kernel_rfl) (fun _ _ _ h => h) (Or.inl ⟨by rfl, ?hyc14⟩) ?kyc14
          case hyc14 => (intro w; go_simp; try (with_reducible rfl))
          go_simp
          refine wpAny_take (i := 15) (v := ?vyc15) rfl (by kernel_rfl) (by kernel_rfl) (by kernel_rfl) (fun _ _ _ h => h) (Or.inl ⟨by rfl, ?hyc15⟩) ?kyc15
          case hyc15 => (intro w; go_simp; try (with_reducible rfl))
          go_simp
          refine wpAny_take (i := 16) (v := ?vyc16) rfl (by kernel_rfl) (by kernel_rfl) (by kernel_rfl) (fun _ _ _ h => h) (Or.inl ⟨by rfl, ?hyc16⟩) ?kyc16
          case hyc16 => (intro w; go_simp; try (with_reducible rfl))
          go_simp
          refine wpAny_take (i := 17) (v := ?vyc17) rfl (by kernel_rfl) (by kernel_rfl) (by kernel_rfl) (fun _ _ _ h => h) (Or.inl ⟨by rfl, ?hyc17⟩) ?kyc17
          case hyc17 => (intro w; go_simp; try (with_reducible rfl))
          go_simp
          refine wpAny_ready (rs := [18]) (by kernel_rfl) (by simp) ?_
          refine AllReady.cons rfl (fun K hK => ?_) AllReady.nil
          go_simp
          refine (awake_any _ (HAW.out _ (hb2.trans (hb3.mono hb2.size)))).mono ?_
          rintro e w4 ⟨rfl, hb4⟩
          refine hK _ _ ?_
          clear hK K
          refine wpAny_take (i := 19) (v := ?vyc19) rfl (by kernel_rfl) (by kernel_rfl) (by kernel_rfl) (fun _ _ _ h => h) (Or.inl ⟨by rfl, ?hyc19⟩) ?kyc19
          case hyc19 => (intro w; go_simp; try (with_reducible rfl))
          go_simp
          refine wpAny_take (i := 20) (v := ?vyc20) rfl (by kernel_rfl) (by kernel_rfl) (by kernel_rfl) (fun _ _ _ h => h) (Or.inl ⟨by rfl, ?hyc20⟩) ?kyc20
          case hyc20 => (intro w; go_simp; try (with_reducible rfl))
          go_simp
          refine wpAny_done (by kernel_rfl) ?_ _
          have hbe := later_ hbel (((Below.refl w7.heap.size w7).drew.trans hb2).trans ((hb3.mono hb2.size).trans (hb4.mono (Nat.le_trans hb2.size hb3.size))))
          go_wp2_with fail
          go_ret
          exact ⟨rfl, hbe⟩
end Go.Proofs.YthepokgkfaocmaaGreatDoor
