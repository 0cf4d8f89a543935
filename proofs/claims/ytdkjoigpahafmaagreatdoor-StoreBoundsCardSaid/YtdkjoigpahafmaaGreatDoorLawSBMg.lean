/-
 The walk of StoreBounds.
-/
import Derived.Test.YtdkjoigpahafmaaGreatDoorBunAA
import Derived.Test.YtdkjoigpahafmaaGreatDoorBunAU
namespace Go.Proofs.YtdkjoigpahafmaaGreatDoor
open Go Go.RowKit Go.Lib Go.Shelf
variable {w w1 w2 : World} {X X1 X2 : Dw} {S S1 S2 : Sd} {Y Y1 Y2 : Yw} {V V1 V2 : Sv}
theorem it_cells0 (k : Nat) : (Bd.it 0 k).cells = #[.int .i64 ((k : Int) / 100), .int .i64 2, .int .u64 ((k : Int) % 100), .int .u64 ((k : Int) + 1), .int .i64 0].toList := by
 simp [It.cells, Bd.it]
theorem it_cells1 (q : Nat) : (Bd.it 100 q).cells = #[.int .i64 (100 + (q : Int) / 100), .int .i64 2, .int .u64 ((q : Int) % 100), .int .u64 ((q : Int) + 1), .int .i64 0].toList := by
 simp [It.cells, Bd.it]
theorem l1_snoc (k : Nat) : Bd.l1 (k + 1) = Bd.l1 k ++ [Bd.it 0 k] := by
 simp [Bd.l1, List.range_succ]
def l2p (q : Nat) : List It := (List.range q).map (Bd.it 100)
theorem l2_snoc (q : Nat) : l2p (q + 1) = l2p q ++ [Bd.it 100 q] := by
 simp [l2p, List.range_succ]
structure BdL (w : World) (B : Nat) (A : Option Addr) (k c : Nat) (L : List It) (er : Nat) : Prop where
 row : Row w.heap.size w A k 5 (itc L)
 low : ∀ a, A = some a → B ≤ a.block
 fit : ∀ x ∈ L, x.fit
 ends : er = 1 ∧ L.all It.ok = false ∨ (1000 < k ∧ er = 2 ∨ k ≤ 1000 ∧ er = 0) ∧ L = Bd.l1 k
theorem it_fit (s k : Nat) : (Bd.it s k).fit := by unfold It.fit Bd.it; simp
theorem l1_fit (k : Nat) : ∀ x ∈ Bd.l1 k, x.fit := fun x hx => by
 obtain ⟨i, _, rfl⟩ := List.mem_map.1 hx
 exact it_fit 0 i
theorem BdL.good {B k c er : Nat} {A : Option Addr} (h : w.ownsRow B 27 5 (.slice A k c) k (itc (Bd.l1 k))) (he : 1000 < k ∧ er = 2 ∨ k ≤ 1000 ∧ er = 0) : BdL w B A k c (Bd.l1 k) er := by
 obtain ⟨A', c', hv, _, _, hlow⟩ := own_form h
 injection hv with e1 e2 e3
 subst e1
 exact ⟨Row.own h, fun a ha => (hlow a ha).1, l1_fit k, .inr ⟨he, rfl⟩⟩
theorem own_addr {B k c : Nat} {p : Addr} {xs : List Value} (h : w.ownsRow B 27 5 (.slice (some p) k c) k xs) : ∃ g, p = ⟨g, 0, none⟩ ∧ B ≤ g := by
 obtain ⟨A', c', hv, _, _, hlow⟩ := own_form h
 injection hv with e1 e2 e3
 obtain ⟨q1, q2, q3, q4⟩ := hlow p e1.symm
 obtain ⟨b, o, s⟩ := p
 simp only at q1 q3 q4
 subst q3 q4
 exact ⟨b, rfl, q1⟩
theorem itc_set3 : ∀ (l : List It) (j : Nat) (hj : j < l.length), (itc l).set (j * 5 + 3) (.int .u64 0) = itc (l.set j { l[j] with v := 0 })
 | x :: t, 0, _ => rfl
 | x :: t, j + 1, h => by
  have hj : j < t.length := by simpa using h
  have e := itc_set3 t j hj
  have q : (j + 1) * 5 + 3 = j * 5 + 3 + 5 := by omega
  rw [q, List.set_cons_succ, List.getElem_cons_succ]
  show x.cells ++ (itc t).set (j * 5 + 3) _ = x.cells ++ itc _
  rw [e]
theorem BdL.bad {B k c g j : Nat} (h : w.ownsRow B 27 5 (.slice (some ⟨g, 0, none⟩) k c) k (itc (Bd.l1 k))) (hj : j < k) : BdL (w.setCell ⟨g, j * 5 + 3, none⟩ (.int .u64 0)) B (some ⟨g, 0, none⟩) k c ((Bd.l1 k).set j { (Bd.it 0 j) with v := 0 }) 1 := by
 have hl : j < (Bd.l1 k).length := by rw [Bd.l1_len]; exact hj
 have e : (Bd.l1 k)[j] = Bd.it 0 j := by simp [Bd.l1]
 obtain ⟨h2, _⟩ := h.stored (j * 5 + 3) (.int .u64 0)
 rw [itc_set3 _ j hl, e] at h2
 obtain ⟨A', c', hv, _, _, hlow⟩ := own_form h2
 injection hv with e1 e2 e3
 subst e1
 refine ⟨Row.own h2, fun a ha => (hlow a ha).1, fun x hx => ?_, .inl ⟨rfl, ?_⟩⟩
 ·rcases List.mem_or_eq_of_mem_set hx with q | q
  ·exact l1_fit k x q
  ·rw [q]
   exact it_fit 0 j
 ·rw [List.all_eq_false]
  exact ⟨_, List.mem_set hl _, by simp [It.ok]⟩
theorem Bd.BS.mono {c d : Nat} (h : Bd.BS S V c) (hd : c ≤ d) : Bd.BS S V d := ⟨h.calm, h.quota, h.only, h.nm, let ⟨t, a, b⟩ := h.log; ⟨t, a, by omega⟩, h.small, by have := h.sz; omega, by have := h.ct; omega, by have := h.mem; omega⟩
theorem BdL.first {k B c er : Nat} {A : Option Addr} {L : List It} (HL : BdL w B A k c L er) (hb : Bd.BS S Bd.v0 0) (hk : 985 ≤ k ∧ k ≤ 1016) :
  ∃ S1 V1, St.apply S Bd.v0 L = (S1, V1, er) ∧ Bd.BS S1 V1 32100 ∧ Stt V1.st ∧ V1.st.length ≤ 1000 ∧ (er = 0 ∧ k ≤ 1000 ∧ V1.st = Bd.l1 k ∨ er ≠ 0 ∧ V1.st = [] ∧ V1.ct = 0 ∧ V1.tabs = []) := by
 have hlen := Bd.l1_len k
 have h0 : Bd.l1 k ≠ [] := fun e => by rw [e] at hlen; simp at hlen; omega
 have ha : (Bd.l1 k).all It.ok = true := List.all_eq_true.2 fun x hx => (Bd.l1_all (by omega) x hx).1
 have hj : joins [] (Bd.l1 k) = Bd.l1 k := Bd.join1 (by omega)
 rcases HL.ends with ⟨h1, h2⟩ | ⟨⟨h3, h4⟩ | ⟨h3, h4⟩, h5⟩
 ·subst h1
  exact ⟨S, Bd.v0, hb.bad (.inr h2), hb.mono (by omega), Stt.nil, Nat.zero_le _, .inr ⟨by omega, rfl, rfl, rfl⟩⟩
 ·subst h4 h5
  exact ⟨S, Bd.v0, hb.long h0 ha (.inl (by omega)), hb.mono (by omega), Stt.nil, Nat.zero_le _, .inr ⟨by omega, rfl, rfl, rfl⟩⟩
 ·subst h4 h5
  obtain ⟨S', V', q1, q2, q3⟩ := hb.apply (by omega) h0 ha (by omega) (by show (joins [] (Bd.l1 k)).length ≤ 1500; rw [hj]; omega)
  have q4 : V'.st = Bd.l1 k := q3.trans hj
  refine ⟨S', V', q1, q2, ?_, by rw [q4]; omega, .inl ⟨rfl, h3, q4⟩⟩
  have := (joins_stt (Bd.l1 k) Stt.nil).1
  rw [hj] at this
  rw [q4]
  exact this
theorem bd_second {k m : Nat} (hb : Bd.BS S V 32100) (hs : V.st = Bd.l1 k) (ht : Stt V.st) (hk : 985 ≤ k ∧ k ≤ 1000) (hm : m + k = 1500) :
  St.apply S V Bd.l2 = (S, V, 2) ∧ ∃ S2 V2, St.apply S V (Bd.l2.take m) = (S2, V2, 0) ∧ Bd.BS S2 V2 64200 ∧ Stt V2.st ∧ V2.st.length = 1500 ∧ St.apply S2 V2 ((Bd.l2.drop m).take 1) = (S2, V2, 2) := by
 have hlen := Bd.l1_len k
 have hl2 := Bd.l2_len
 have hok : ∀ l : List It, (∀ x ∈ l, x ∈ Bd.l2) → l.all It.ok = true := fun l h => List.all_eq_true.2 fun x hx => (Bd.l2_all x (h x hx)).1
 have e1 : Bd.l2 = Bd.l2.take m ++ Bd.l2.drop m := (List.take_append_drop m _).symm
 have e2 : Bd.l2 = Bd.l2.take m ++ ((Bd.l2.drop m).take 1 ++ (Bd.l2.drop m).drop 1) := by rw [List.take_append_drop]; exact e1
 have e3 : Bd.l2 = Bd.l2 ++ [] := by simp
 have hne : ∀ l : List It, 0 < l.length → l ≠ [] := fun l h e => by rw [e] at h; simp at h
 have t1 : (Bd.l2.take m).length = m := by rw [List.length_take]; omega
 have t2 : ((Bd.l2.drop m).take 1).length = 1 := by rw [List.length_take, List.length_drop]; omega
 have j1 := Bd.join2 (n := k) (by omega) e1
 have j2 := Bd.join3 (n := k) (by omega) e2
 have j3 := Bd.join2 (n := k) (by omega) e3
 obtain ⟨S', V', q1, q2, q3⟩ := hb.apply (l := Bd.l2.take m) (by omega) (hne _ (by omega)) (hok _ fun x hx => List.mem_of_mem_take hx) (by omega) (by rw [hs, j1, List.length_append]; omega)
 rw [hs] at q3
 have q4 := q3.trans j1
 refine ⟨hb.long (hne _ (by omega)) (hok _ fun x hx => hx) (.inr (by rw [hs, j3, List.length_append]; omega)), S', V', q1, q2, ?_, by rw [q4, List.length_append]; omega, q2.long (hne _ (by omega)) (hok _ fun x hx => List.mem_of_mem_drop (List.mem_of_mem_take hx)) (.inr (by rw [q4, j2, List.length_append, List.length_append]; omega))⟩
 have := (joins_stt (Bd.l2.take m) ht).1
 rw [hs] at this
 rw [q3]
 exact this
theorem bd_apply {w0 : World} {gw d er : Nat} {l : List It} {S' : Sd} {V' : Sv} (h : WAt w0 w gw X S Y V) (hb : Bd.BS S V d) (hd : d ≤ 70000) (hst : Stt V.st) (hsl : V.st.length ≤ 2000) (A : Option Addr) (n c : Nat) (hn : n ≤ 100000) (hr : Row w.heap.size w A n 5 (itc l)) (hA : ∀ a, A = some a → a.block ∉ XY X Y) (hf : ∀ x ∈ l, x.fit) (hR : St.apply S V l = (S', V', er)) :
  Calls Tryz.prog 9 #[.pointer (some ⟨Y.s, 0, none⟩), .slice A n c] w fun e w' => e = .returned (.int .i64 (er : Int)) ∧ ∃ X1 Y1, WAt w0 w' gw X1 S' Y1 V' ∧ Chg (XY X Y) w w' ∧ ∀ g ∈ XY X1 Y1, g ∈ XY X Y ∨ w.heap.size ≤ g := by
 have h1 := hb.sz
 have h2 := hb.ct
 have h3 := hb.mem
 refine (sapply_any h.at_ A n c l hn hr hA hf hst hsl (by omega) (by omega) (by omega) (by rw [hb.nm]; decide)).mono fun e w' ⟨q1, q2⟩ => ?_
 rw [hR] at q1 q2
 obtain ⟨X1, Y1, k1, k2⟩ := h.upd q2
 exact ⟨q1, X1, Y1, k1, q2.c, k2⟩
structure BdM (w : World) (X : Dw) (Y : Yw) (A : Option Addr) : Prop where
 row : Row w.heap.size w A 600 5 (itc Bd.l2)
 out : ∀ a, A = some a → a.block ∉ XY X Y
theorem BdM.step {A : Option Addr} (h : BdM w X Y A) (c : Chg (XY X Y) w w1) (hf : ∀ g ∈ XY X1 Y1, g ∈ XY X Y ∨ w.heap.size ≤ g) : BdM w1 X1 Y1 A := by
 refine ⟨(row_chg c h.row (Nat.le_refl _) fun j _ a ha => h.out a ha).up c.size, fun a ha hm => ?_⟩
 rcases hf _ hm with q | q
 ·exact h.out a ha q
 ·obtain ⟨a', e, hlt, _⟩ := h.row.cell 0 (by rw [itc_length, Bd.l2_len]; omega)
  rw [ha] at e
  injection e with e
  subst e
  omega
theorem BdM.below {A : Option Addr} (h : BdM w X Y A) (b : Below w.heap.size w w1) : BdM w1 X Y A := ⟨(h.row.below b).up b.size, h.out⟩
theorem BdM.take {A : Option Addr} (h : BdM w X Y A) {m : Nat} (hm : m ≤ 600) : Row w.heap.size w A m 5 (itc (Bd.l2.take m)) := by
 have := h.row.itcut (k := 0) (m := m) (Nat.zero_le _) hm (A' := A) (fun _ => by cases A <;> simp [Addr.add])
 simpa using this
theorem BdM.one {p : Addr} (h : BdM w X Y (some p)) {m : Nat} (hm : m + 1 ≤ 600) : Row w.heap.size w (some (p.add (m * 5))) 1 5 (itc ((Bd.l2.drop m).take 1)) := by
 have := h.row.itcut (k := m) (m := m + 1) (Nat.le_succ _) hm (A' := some (p.add (m * 5))) (fun _ => rfl)
 simpa using this
theorem l2_fit : ∀ x ∈ Bd.l2, x.fit := fun x hx => by
 obtain ⟨i, _, rfl⟩ := List.mem_map.1 hx
 exact it_fit 100 i
set_option maxRecDepth 100000 in
set_option maxHeartbeats 16000000 in
theorem storeBounds_walk (n at_ kind : Int) (he : Env w) :
  Calls Tryz.prog 3 #[.int .i64 n, .int .i64 at_, .int .i64 kind] w fun e w' => e = .returned (.bool true) ∧ Below w.heap.size w w' := by
 obtain ⟨mn, hmn, hmn1⟩ := and_mask n 5 (by omega)
 have hmn' : bits .and .i64 n 31 = (mn : Int) := hmn
 clear hmn
 obtain ⟨mk, hmk, hmk1⟩ := and_mask kind 2 (by omega)
 have hmk' : bits .and .i64 kind 3 = (mk : Int) := hmk
 clear hmk
 obtain ⟨ma, hma, hma1⟩ := and_mask at_ 16 (by omega)
 have hma' : bits .and .i64 at_ 65535 = (ma : Int) := hma
 clear hma
 obtain ⟨S0, hcr, hbs⟩ := Bd.born
 have hnw := wnew_any 4194304 (by omega) he S0 Bd.v0 hcr
 obtain ⟨i0, hi0, hz0, hz1, hz2⟩ := info_parts info_item
 have HNW := Lib.hid hnw
 have HE := Lib.hid he
 have HBS := Lib.hid hbs
 clear hnw he hbs hcr
 go_enter Tryz.func3, Tryz.ntmps3
 go_wp2_with fail
 with_reducible refine HNW.out.mono ?_
 rintro e w1 ⟨gw, X, Y, rfl, hw⟩
 have HW := Lib.hid hw
 clear hw HNW
 go_wp2_with fail
 obtain ⟨N, hN⟩ : ∃ N, N = mn + 985 := ⟨_, rfl⟩
 have hN1 : (mn : Int) + 985 = (N : Int) := by omega
 have hN2 : 985 ≤ N ∧ N ≤ 1016 := by omega
 rw [hN1]
 clear hN1 hN
 go_loopw [8, 9] (fun v i wr => ∃ (k : Nat) (A : Option Addr) (c : Nat), k ≤ N ∧ v = .slice A k c ∧ i = .int .i64 (k : Int) ∧ Hid (wr.ownsRow w1.heap.size 27 5 (.slice A k c) k (itc (Bd.l1 k))) ∧ Below w1.heap.size w1 wr) (fun _ i _ => N - (intOf i).toNat)
 case atStart => exact ⟨0, none, 0, Nat.zero_le _, rfl, rfl, Lib.hid (World.ownsRow_nil _ _ _ _), Below.refl _ _⟩
 case round =>
  obtain ⟨k, A, c, hk, rfl, rfl, HQ, hbl⟩ := hrel
  by_cases hlt : k < N
  ·have hbV := hbl.alloc hbl.size (.cells #[.int .i64 ((k : Int) / 100), .int .i64 2, .int .u64 ((k : Int) % 100), .int .u64 ((k : Int) + 1), .int .i64 0] 27)
   have hbo := (Below.refl wr.heap.size wr).alloc (Nat.le_refl _) (.cells #[.int .i64 ((k : Int) / 100), .int .i64 2, .int .u64 ((k : Int) % 100), .int .u64 ((k : Int) + 1), .int .i64 0] 27)
   have hvb : BoxO (wr.alloc (.cells #[.int .i64 ((k : Int) / 100), .int .i64 2, .int .u64 ((k : Int) % 100), .int .u64 ((k : Int) + 1), .int .i64 0] 27)) 27 wr.heap.size (Bd.it 0 k).cells := by
    rw [it_cells0]
    exact BoxO.new wr #[.int .i64 ((k : Int) / 100), .int .i64 2, .int .u64 ((k : Int) % 100), .int .u64 ((k : Int) + 1), .int .i64 0] 27
   have HX := Lib.hid (show itc (Bd.l1 k) ++ (Bd.it 0 k).cells = itc (Bd.l1 (k + 1)) by rw [l1_snoc, itc_append]; simp [itc])
   have HR := Lib.hid (irow_box hvb)
   have HO := Lib.hid (own_below HQ.out hbo)
   have HB := Lib.hid hbV
   clear hbV hbo hvb HQ
   go_wp2_with (at_builtin; refine stop_in ?_)
   refine stop_out (wpList_app rfl (.tmp 27) (.tmp 37) _ rfl w1.heap.size 27 i0 _ 5 40 Tryz.underlying24 hi0 hz0 hz1 hz2 rfl (by omega) w1 HB.out HB.out.size _ k (itc (Bd.l1 k)) rfl HO.out (wr.alloc (.cells #[.int .i64 ((k : Int) / 100), .int .i64 2, .int .u64 ((k : Int) % 100), .int .u64 ((k : Int) + 1), .int .i64 0] 27)).heap.size _ 1 1 (Bd.it 0 k).cells rfl HR.out (fun v hv => itc_one [Bd.it 0 k] v (by simpa [itc] using hv)) (k + 1) _ rfl HX.out (by unfold maxLen; omega) (by omega) ?_)
   intro A3 c3 w5 h1 h2 h3 h4 h5
   have H5 := Lib.hid h1
   clear h1 h3 HX HR HO HB
   go_wp2
   go_roundw
   case rel => exact ⟨k + 1, A3, c3, by omega, rfl, by go_num, H5, h2⟩
   case measure => simp [intOf]; omega
  ·obtain rfl : k = N := by omega
   clear hk hlt
   go_upto_if 40 with (fail)
   go_cut [10] from 41 (fun u wx => ∃ er : Nat, u = .int .i64 (er : Int) ∧ wx = wr ∧ Hid (1000 < k ∧ er = 2 ∨ k ≤ 1000 ∧ er = 0))
   case first =>
    by_cases hk : 1000 < k
    ·go_wp2_with fail
     go_meet
     exact ⟨2, rfl, rfl, Lib.hid (.inl ⟨hk, rfl⟩)⟩
    ·go_wp2_with fail
     go_meet
     exact ⟨0, rfl, rfl, Lib.hid (.inr ⟨by omega, rfl⟩)⟩
   case rest =>
    obtain ⟨er, rfl, hwc, HER⟩ := hcut
    obtain rfl := hwc.symm
    go_upto_if 43 with (fail)
    go_cut [10] from 42 (fun u wx => ∃ er : Nat, u = .int .i64 (er : Int) ∧ ∃ L : List It, Below w1.heap.size w1 wx ∧ Hid (BdL wx w1.heap.size A k c L er))
    case first =>
     by_cases hk1 : mk = 1
     ·subst hk1
      obtain ⟨j, hj⟩ : ∃ j, j = ma % k := ⟨_, rfl⟩
      have hjk : j < k := by rw [hj]; exact Nat.mod_lt _ (by omega)
      have hjm : (ma : Int) % (k : Int) = (j : Int) := by rw [hj]; rfl
      clear hj
      obtain ⟨p, hl, rfl, hbk, c0, c1, c2', c3, c4⟩ := (Row.own HQ.out).it hjk
      obtain ⟨g, hg, hgl⟩ := own_addr HQ.out
      have hpe : (⟨(p.add (j * 5)).block, (p.add (j * 5)).off + 3, none⟩ : Addr) = ⟨g, j * 5 + 3, none⟩ := by rw [hg]; unfold Addr.add; by_cases h0 : j * 5 = 0 <;> simp [h0]
      have hfr : wr.frozen? ⟨(p.add (j * 5)).block, (p.add (j * 5)).off + 3, none⟩ = false := by rw [hpe]; exact (own_set (Bd.it 0 j) (hg ▸ HQ.out) hjk).2.2 _
      have HBD : Hid (BdL (wr.setCell ⟨(p.add (j * 5)).block, (p.add (j * 5)).off + 3, none⟩ (.int .u64 0)) w1.heap.size (some p) k c ((Bd.l1 k).set j { (Bd.it 0 j) with v := 0 }) 1) := Lib.hid (by
       rw [hpe]
       have := BdL.bad (hg ▸ HQ.out) hjk
       rw [← hg] at this
       exact this)
      have HBL : Hid (Below w1.heap.size w1 (wr.setCell ⟨(p.add (j * 5)).block, (p.add (j * 5)).off + 3, none⟩ (.int .u64 0))) := Lib.hid (hbl.setCell (by rw [hpe]; exact hgl) _)
      clear hpe hg hgl HQ
      go_wp2_with fail
      go_meet
      exact ⟨1, rfl, _, HBL.out, HBD⟩
     ·have e1 : ((mk : Int) == 1) = false := by simp; omega
      go_wp2_with fail
      go_meet
      exact ⟨er, rfl, Bd.l1 k, hbl, Lib.hid (BdL.good HQ.out HER.out)⟩
    case rest =>
     clear HER
     obtain ⟨er, rfl, L, hbl2, HBD⟩ := hcut
     obtain ⟨S1, V1, hR1, hb1, hst1, hsl1, hends⟩ := HBD.out.first HBS.out hN2
     have h2 := HW.out.below hbl2
     have hlt := HW.out.at_.lt
     have hap := bd_apply h2 HBS.out (by omega) Stt.nil (Nat.zero_le _) A k c (by omega) HBD.out.row (fun a ha hm => by
      have := HBD.out.low a ha
      have := hlt _ hm
      omega) HBD.out.fit hR1
     have HAP := Lib.hid hap
     have H1 := Lib.hid (And.intro hb1 (And.intro hst1 (And.intro hsl1 hends)))
     have k1 := h2.box.cell 1
     simp only [gE0, gE1] at k1
     clear hap hb1 hst1 hsl1 hends h2 hlt hbl2 HBD hR1 hbl HQ hmn' hmk' hma' hmn1 hmk1 hma1 HW
     go_wp2_with fail
     with_reducible refine HAP.out.mono ?_
     rintro e w3 ⟨rfl, X3, Y3, h3, c3, hf3⟩
     have hap := bd_apply h3 H1.out.1 (by omega) H1.out.2.1 (by have := H1.out.2.2.1; omega) none 0 0 (by omega) Row.nil_ (fun a ha => by cases ha) (fun x hx => by cases hx) (H1.out.1.bad (.inl rfl))
     have HAP2 := Lib.hid hap
     have k1 := h3.box.cell 1
     simp only [gE0, gE1] at k1
     clear hap h3 c3 hf3 HAP
     go_wp2_with fail
     with_reducible refine HAP2.out.mono ?_
     rintro e w4 ⟨rfl, X4, Y4, h4, c4, hf4⟩
     have k1 := h4.box.cell 1
     simp only [gE0, gE1] at k1
     have H4 := Lib.hid h4
     clear h4 c4 hf4 HAP2
     obtain ⟨hb1, hst1, hsl1, hends⟩ := H1.out
     rcases hends with ⟨rfl, hk2, hs1⟩ | ⟨hne, hs1, hct1, htb1⟩
     ·go_wp2_with fail
      go_loopw [11, 12] (fun v i wr => ∃ (q : Nat) (A2 : Option Addr) (c2 : Nat), q ≤ 600 ∧ v = .slice A2 q c2 ∧ i = .int .i64 (q : Int) ∧ Hid (wr.ownsRow w4.heap.size 27 5 (.slice A2 q c2) q (itc (l2p q))) ∧ Below w4.heap.size w4 wr) (fun _ i _ => 600 - (intOf i).toNat)
      case atStart => exact ⟨0, none, 0, Nat.zero_le _, rfl, rfl, Lib.hid (World.ownsRow_nil _ _ _ _), Below.refl _ _⟩
      case round =>
       obtain ⟨q, A2, c2, hq, rfl, rfl, HQ, hbl⟩ := hrel
       by_cases hlt : q < 600
       ·have hbV := hbl.alloc hbl.size (.cells #[.int .i64 (100 + (q : Int) / 100), .int .i64 2, .int .u64 ((q : Int) % 100), .int .u64 ((q : Int) + 1), .int .i64 0] 27)
        have hbo := (Below.refl wr.heap.size wr).alloc (Nat.le_refl _) (.cells #[.int .i64 (100 + (q : Int) / 100), .int .i64 2, .int .u64 ((q : Int) % 100), .int .u64 ((q : Int) + 1), .int .i64 0] 27)
        have hvb : BoxO (wr.alloc (.cells #[.int .i64 (100 + (q : Int) / 100), .int .i64 2, .int .u64 ((q : Int) % 100), .int .u64 ((q : Int) + 1), .int .i64 0] 27)) 27 wr.heap.size (Bd.it 100 q).cells := by
         rw [it_cells1]
         exact BoxO.new wr #[.int .i64 (100 + (q : Int) / 100), .int .i64 2, .int .u64 ((q : Int) % 100), .int .u64 ((q : Int) + 1), .int .i64 0] 27
        have HX := Lib.hid (show itc (l2p q) ++ (Bd.it 100 q).cells = itc (l2p (q + 1)) by rw [l2_snoc, itc_append]; simp [itc])
        have HR := Lib.hid (irow_box hvb)
        have HO := Lib.hid (own_below HQ.out hbo)
        have HB := Lib.hid hbV
        clear hbV hbo hvb HQ
        go_wp2_with (at_builtin; refine stop_in ?_)
        refine stop_out (wpList_app rfl (.tmp 92) (.tmp 103) _ rfl w4.heap.size 27 i0 _ 5 40 Tryz.underlying24 hi0 hz0 hz1 hz2 rfl (by omega) w4 HB.out HB.out.size _ q (itc (l2p q)) rfl HO.out (wr.alloc (.cells #[.int .i64 (100 + (q : Int) / 100), .int .i64 2, .int .u64 ((q : Int) % 100), .int .u64 ((q : Int) + 1), .int .i64 0] 27)).heap.size _ 1 1 (Bd.it 100 q).cells rfl HR.out (fun v hv => itc_one [Bd.it 100 q] v (by simpa [itc] using hv)) (q + 1) _ rfl HX.out (by unfold maxLen; omega) (by omega) ?_)
        intro A3 c3 w5 h1 h2 h3 h4 h5
        have H5 := Lib.hid h1
        clear h1 h3 HX HR HO HB
        go_wp2
        go_roundw
        case rel => exact ⟨q + 1, A3, c3, by omega, rfl, by go_num, H5, h2⟩
        case measure => simp [intOf]; omega
       ·obtain rfl : q = 600 := by omega
        clear hq hlt
        obtain ⟨m, hm⟩ : ∃ m, m + k = 1500 := ⟨1500 - k, by omega⟩
        have hm1 : (1500 : Int) - (k : Int) = (m : Int) := by omega
        obtain ⟨m1, hm0⟩ : ∃ m1, m1 = m + 1 := ⟨_, rfl⟩
        have hm2 : (1501 : Int) - (k : Int) = (m1 : Int) := by omega
        have hm3 : 500 ≤ m ∧ m ≤ 515 := by omega
        have hw1 : IntKind.i64.wrap (m : Int) = (m : Int) := IntWalk.i64_in _ (by omega)
        have hw2 : IntKind.i64.wrap (m1 : Int) = (m1 : Int) := IntWalk.i64_in _ (by omega)
        have hw3 : m1 - m = 1 := by omega
        have hw4 : (m : Int) ≤ (m1 : Int) := by omega
        have hm5 : m1 ≤ 516 := by omega
        clear hm0
        obtain ⟨r1, S2, V2, r2, hb2, hst2, hl2, r3⟩ := bd_second hb1 hs1 hst1 ⟨hN2.1, hk2⟩ hm
        have h5 := H4.out.below hbl
        have hM : BdM wr X4 Y4 A2 := ⟨Row.own HQ.out, fun a ha hm => by
         obtain ⟨A', c', hv, _, _, hlow⟩ := own_form HQ.out
         injection hv with q1 q2 q3
         have q4 := (hlow a (q1.symm.trans ha)).1
         have q5 := H4.out.at_.lt _ hm
         omega⟩
        obtain ⟨p, rfl⟩ : ∃ p, A2 = some p := by
         obtain ⟨p, e, _⟩ := hM.row.cell 0 (by rw [itc_length, Bd.l2_len]; omega)
         exact ⟨p, e⟩
        have hc2 : 600 ≤ c2 ∧ c2 ≤ maxLen := by
         obtain ⟨A', c', hv, hcc, hcm, hlow⟩ := own_form HQ.out
         injection hv with q1 q2 q3
         subst q3
         exact ⟨hcc, hcm⟩
        have hw5 : (m : Int) ≤ (c2 : Int) := by omega
        have hw6 : (m1 : Int) ≤ (c2 : Int) := by omega
        have hw7 : (c2 = m) = False := eq_false (by omega)
        have hap := bd_apply h5 hb1 (by omega) hst1 (by omega) (some p) 600 c2 (by omega) hM.row hM.out l2_fit r1
        have HAP := Lib.hid hap
        have HM := Lib.hid hM
        have HR := Lib.hid (And.intro hb2 (And.intro hst2 (And.intro hl2 (And.intro r2 r3))))
        have k1 := h5.box.cell 1
        simp only [gE0, gE1] at k1
        clear hap hM h5 hb2 hst2 hl2 r1 r2 r3 HQ hbl H4
        go_wp2_with fail
        with_reducible refine HAP.out.mono ?_
        rintro e w6 ⟨rfl, X6, Y6, h6, c6, hf6⟩
        have HM6 := Lib.hid (HM.out.step c6 hf6)
        have H6 := Lib.hid h6
        clear c6 hf6 HM h6 HAP k1
        go_wp2_with fail
        have HAP : Hid (∀ W', Below w6.heap.size w6 W' → Calls Tryz.prog 9 #[.pointer (some ⟨Y6.s, 0, none⟩), .slice (some p) m c2] W' fun e w' => e = .returned (.int .i64 ((0 : Nat) : Int)) ∧ ∃ X1 Y1, WAt w w' gw X1 S2 Y1 V2 ∧ Chg (XY X6 Y6) W' w' ∧ ∀ g ∈ XY X1 Y1, g ∈ XY X6 Y6 ∨ W'.heap.size ≤ g) := Lib.hid fun W' hb => bd_apply (H6.out.below hb) hb1 (by omega) hst1 (by omega) (some p) m c2 (by omega) ((HM6.out.below hb).take (by omega)) (HM6.out.out) (fun x hx => l2_fit x (List.mem_of_mem_take hx)) HR.out.2.2.2.1
        have HS0 : Hid (BoxO w6.drew 34 gw [.pointer (some ⟨X6.d, 0, none⟩), .pointer (some ⟨Y6.s, 0, none⟩), .slice none 0 0, .int .u64 0, .int .u64 0, .int .u64 0, .int .u64 0]) := Lib.hid H6.out.box
        have HOUT := Lib.hid H6.out.out
        refine wp_region_held_drew (S := fun w' => BoxO w' 34 gw [.pointer (some ⟨X6.d, 0, none⟩), .pointer (some ⟨Y6.s, 0, none⟩), .slice none 0 0, .int .u64 0, .int .u64 0, .int .u64 0, .int .u64 0]) rfl HS0.out (fun hSw => ?_)
        refine wpT (i := 0) (v := ?vbf0) ?hbf0 hSw ?kbf0
        case hbf0 => (intro w hSw; (have k1 := hSw.cell 1; simp only [gE0, gE1] at k1); go_simp; try (with_reducible rfl))
        go_simp
        refine wpT (i := 1) (v := ?vbf1) ?hbf1 hSw ?kbf1
        case hbf1 => (intro w hSw; (have k1 := hSw.cell 1; simp only [gE0, gE1] at k1); go_simp; try (with_reducible rfl))
        go_simp
        refine wpT (i := 2) (v := ?vbf2) ?hbf2 hSw ?kbf2
        case hbf2 => (intro w hSw; (have k1 := hSw.cell 1; simp only [gE0, gE1] at k1); go_simp; try (with_reducible rfl))
        go_simp
        refine wpT (i := 3) (v := ?vbf3) ?hbf3 hSw ?kbf3
        case hbf3 => (intro w hSw; (have k1 := hSw.cell 1; simp only [gE0, gE1] at k1); go_simp; try (with_reducible rfl))
        go_simp
        refine wpT (i := 4) (v := ?vbf4) ?hbf4 hSw ?kbf4
        case hbf4 => (intro w hSw; (have k1 := hSw.cell 1; simp only [gE0, gE1] at k1); go_simp; try (with_reducible rfl))
        go_simp
        refine wpT (i := 5) (v := ?vbf5) ?hbf5 hSw ?kbf5
        case hbf5 => (intro w hSw; (have k1 := hSw.cell 1; simp only [gE0, gE1] at k1); go_simp; try (with_reducible rfl))
        go_simp
        refine wpT (i := 6) (v := ?vbf6) ?hbf6 hSw ?kbf6
        case hbf6 => (intro w hSw; (have k1 := hSw.cell 1; simp only [gE0, gE1] at k1); go_simp; try (with_reducible rfl))
        go_simp
        refine wpT (i := 7) (v := ?vbf7) ?hbf7 hSw ?kbf7
        case hbf7 => (intro w hSw; (have k1 := hSw.cell 1; simp only [gE0, gE1] at k1); go_simp; try (with_reducible rfl))
        go_simp
        refine wpAnyH_ready (rs := [8]) (by kernel_rfl) (by simp) ?_
        refine AllReadyH.cons rfl (fun K hK => ?_) AllReadyH.nil
        go_simp
        with_reducible refine (HAP.out _ (by first | exact below_drew (Below.refl _ _) | exact Below.refl _ _)).mono ?_
        rintro e w7 ⟨rfl, X7, Y7, h7, c7, hf7⟩
        go_simp
        refine hK.out _ _ (hSw.chg c7 HOUT.out) (fun hSn => ?_)
        clear hK K hSw
        have hSw := hSn
        clear hSn
        go_simp
        refine wpT (i := 9) (v := ?vbf9) ?hbf9 hSw ?kbf9
        case hbf9 => (intro w hSw; (have k1 := hSw.cell 1; simp only [gE0, gE1] at k1); go_simp; try (with_reducible rfl))
        go_simp
        refine wpAnyH_done (by kernel_rfl) ?_ _
        have hM7 := (HM6.out.below (by first | exact below_drew (Below.refl _ _) | exact Below.refl _ _)).step c7 hf7
        have HM7 := Lib.hid hM7
        have H7 := Lib.hid h7
        clear hM7 h7 c7 hf7 hSw HAP HS0 HOUT HM6 H6
        go_wp2_with fail
        have HAP : Hid (∀ W', Below w7.heap.size w7 W' → Calls Tryz.prog 9 #[.pointer (some ⟨Y7.s, 0, none⟩), .slice (some (p.add (m * 5))) 1 (c2 - m)] W' fun e w' => e = .returned (.int .i64 ((2 : Nat) : Int)) ∧ ∃ X1 Y1, WAt w w' gw X1 S2 Y1 V2 ∧ Chg (XY X7 Y7) W' w' ∧ ∀ g ∈ XY X1 Y1, g ∈ XY X7 Y7 ∨ W'.heap.size ≤ g) := Lib.hid fun W' hb => bd_apply (H7.out.below hb) HR.out.1 (by omega) HR.out.2.1 (by have := HR.out.2.2.1; omega) (some (p.add (m * 5))) 1 (c2 - m) (by omega) ((HM7.out.below hb).one (by omega)) (fun a ha => by
         injection ha with ha
         subst ha
         rw [add_block]
         exact HM7.out.out p rfl) (fun x hx => l2_fit x (List.mem_of_mem_drop (List.mem_of_mem_take hx))) HR.out.2.2.2.2
        have HS0 : Hid (BoxO w7.drew 34 gw [.pointer (some ⟨X7.d, 0, none⟩), .pointer (some ⟨Y7.s, 0, none⟩), .slice none 0 0, .int .u64 0, .int .u64 0, .int .u64 0, .int .u64 0]) := Lib.hid H7.out.box
        have HOUT := Lib.hid H7.out.out
        refine wp_region_held_drew (S := fun w' => BoxO w' 34 gw [.pointer (some ⟨X7.d, 0, none⟩), .pointer (some ⟨Y7.s, 0, none⟩), .slice none 0 0, .int .u64 0, .int .u64 0, .int .u64 0, .int .u64 0]) rfl HS0.out (fun hSw => ?_)
        refine wpT (i := 0) (v := ?vbg0) ?hbg0 hSw ?kbg0
        case hbg0 => (intro w hSw; (have k1 := hSw.cell 1; simp only [gE0, gE1] at k1); go_simp; try (with_reducible rfl))
        go_simp
        refine wpT (i := 1) (v := ?vbg1) ?hbg1 hSw ?kbg1
        case hbg1 => (intro w hSw; (have k1 := hSw.cell 1; simp only [gE0, gE1] at k1); go_simp; try (with_reducible rfl))
        go_simp
        refine wpT (i := 2) (v := ?vbg2) ?hbg2 hSw ?kbg2
        case hbg2 => (intro w hSw; (have k1 := hSw.cell 1; simp only [gE0, gE1] at k1); go_simp; try (with_reducible rfl))
        go_simp
        refine wpT (i := 3) (v := ?vbg3) ?hbg3 hSw ?kbg3
        case hbg3 => (intro w hSw; (have k1 := hSw.cell 1; simp only [gE0, gE1] at k1); go_simp; try (with_reducible rfl))
        go_simp
        refine wpT (i := 4) (v := ?vbg4) ?hbg4 hSw ?kbg4
        case hbg4 => (intro w hSw; (have k1 := hSw.cell 1; simp only [gE0, gE1] at k1); go_simp; try (with_reducible rfl))
        go_simp
        refine wpT (i := 5) (v := ?vbg5) ?hbg5 hSw ?kbg5
        case hbg5 => (intro w hSw; (have k1 := hSw.cell 1; simp only [gE0, gE1] at k1); go_simp; try (with_reducible rfl))
        go_simp
        refine wpT (i := 6) (v := ?vbg6) ?hbg6 hSw ?kbg6
        case hbg6 => (intro w hSw; (have k1 := hSw.cell 1; simp only [gE0, gE1] at k1); go_simp; try (with_reducible rfl))
        go_simp
        refine wpT (i := 7) (v := ?vbg7) ?hbg7 hSw ?kbg7
        case hbg7 => (intro w hSw; (have k1 := hSw.cell 1; simp only [gE0, gE1] at k1); go_simp; try (with_reducible rfl))
        go_simp
        refine wpT (i := 8) (v := ?vbg8) ?hbg8 hSw ?kbg8
        case hbg8 => (intro w hSw; (have k1 := hSw.cell 1; simp only [gE0, gE1] at k1); go_simp; try (with_reducible rfl))
        go_simp
        refine wpT (i := 9) (v := ?vbg9) ?hbg9 hSw ?kbg9
        case hbg9 => (intro w hSw; (have k1 := hSw.cell 1; simp only [gE0, gE1] at k1); go_simp; try (with_reducible rfl))
        go_simp
        refine wpAnyH_ready (rs := [10]) (by kernel_rfl) (by simp) ?_
        refine AllReadyH.cons rfl (fun K hK => ?_) AllReadyH.nil
        go_simp
        with_reducible refine (HAP.out _ (by first | exact below_drew (Below.refl _ _) | exact Below.refl _ _)).mono ?_
        rintro e w8 ⟨rfl, X8, Y8, h8, c8, hf8⟩
        go_simp
        refine hK.out _ _ (hSw.chg c8 HOUT.out) (fun hSn => ?_)
        clear hK K hSw
        have hSw := hSn
        clear hSn
        go_simp
        refine wpT (i := 11) (v := ?vbg11) ?hbg11 hSw ?kbg11
        case hbg11 => (intro w hSw; (have k1 := hSw.cell 1; simp only [gE0, gE1] at k1); go_simp; try (with_reducible rfl))
        go_simp
        refine wpAnyH_done (by kernel_rfl) ?_ _
        have hss := sstate_any h8.at_ (by have := HR.out.2.2.1; omega)
        have hal : Y8.A.n = 1500 := by rw [h8.at_.alen]; exact HR.out.2.2.1
        rw [hal] at hss
        have HSS := Lib.hid hss
        have k1 := h8.box.cell 1
        simp only [gE0, gE1] at k1
        have HB8 := Lib.hid h8.bel
        clear hss hal h8 c8 hf8 hSw HAP HS0 HOUT HM7 H7
        go_wp2_with fail
        with_reducible refine HSS.out.mono ?_
        rintro e w9 ⟨A9, c9, rfl, ho9, hb9⟩
        have h9 := later_ HB8.out hb9
        have HAW := Lib.hid (wawake_any (HE.out.below h9))
        have H9 := Lib.hid h9
        clear h9 hb9 ho9 HSS HB8
        go_wp2_with fail
        with_reducible refine HAW.out.mono ?_
        rintro e w10 ⟨rfl, hb10⟩
        have HB10 := Lib.hid (later_ H9.out hb10)
        clear hb10
        go_wp2
        go_ret
        exact ⟨rfl, HB10.out⟩
     ·have e5 : ((er : Int) == 0) = false := by simp; omega
      have hss := sstate_any H4.out.at_ (by omega)
      have hal : Y4.A.n = 0 := by rw [H4.out.at_.alen, hs1]; rfl
      rw [hal] at hss
      have HSS := Lib.hid hss
      clear hss hal
      go_wp2_with fail
      with_reducible refine HSS.out.mono ?_
      rintro e w5 ⟨A5, c5, rfl, ho5, hb5⟩
      have h5 := H4.out.below hb5
      have hst := sstats_any h5.at_ (by rw [htb1]; simp)
      rw [hct1] at hst
      have k1 := h5.box.cell 1
      simp only [gE0, gE1] at k1
      have hfd : ∀ (a b d : Int) (f : Bool) W', (Instr.field 38 (.agg #[.int .i64 a, .int .i64 b, .int .i64 d, .int .i64 0, .bool f]) 3).run Tryz.prog W' = .ok (.int .i64 0) W' := fun _ _ _ _ _ => rfl
      have HST := Lib.hid hst
      have H5 := Lib.hid h5
      clear hst h5 ho5 hb5 HSS H4
      go_wp2_with fail
      with_reducible refine HST.out.mono ?_
      rintro e w6 ⟨rfl, hb6⟩
      have h6 := later_ H5.out.bel hb6
      have HAW := Lib.hid (wawake_any (HE.out.below h6))
      have H6 := Lib.hid h6
      clear h6 hb6 HST H5
      go_wp2_with fail
      with_reducible refine HAW.out.mono ?_
      rintro e w7 ⟨rfl, hb7⟩
      have HB7 := Lib.hid (later_ H6.out hb7)
      clear hb7
      go_wp2
      go_ret
      exact ⟨rfl, HB7.out⟩
end Go.Proofs.YtdkjoigpahafmaaGreatDoor
