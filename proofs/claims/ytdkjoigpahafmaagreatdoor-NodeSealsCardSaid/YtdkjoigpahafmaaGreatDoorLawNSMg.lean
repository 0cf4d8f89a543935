/-
 The walk of NodeSeals.
-/
import Derived.Test.YtdkjoigpahafmaaGreatDoorBunAA
import Derived.Test.YtdkjoigpahafmaaGreatDoorBunAT
set_option linter.unusedSimpArgs false
set_option linter.unusedVariables false
namespace Go.Proofs.YtdkjoigpahafmaaGreatDoor
open Go Go.RowKit Go.Lib Go.Shelf
variable {w w0 w1 w2 : World} {X X1 X2 : Dw} {S S1 S2 : Sd} {Y Y1 Y2 : Yw} {V V1 V2 : Sv} {nb now grace : Nat} {ni : Int}
theorem and_nat (f : Nat) (hf : f < 18446744073709551616) (k : Nat) (hk : k < 64) : ∃ m : Nat, bits .and .u64 (f : Int) ((2 ^ k - 1 : Nat) : Int) = (m : Int) ∧ m < 2 ^ k := by
 obtain ⟨m, h1, h2, _⟩ := and_mask64 (BitVec.ofNat 64 f) k hk
 rw [BitVec.toNat_ofNat, Nat.mod_eq_of_lt hf] at h1
 exact ⟨m, h1, h2⟩
theorem okJoins_snoc {l : List It} {k : Nat} (h : k < l.length) (a : List It) : okJoins a (l.take (k + 1)) = if (l[k]).ok = true then add (okJoins a (l.take k)) l[k] else okJoins a (l.take k) := by
 unfold okJoins
 rw [List.take_succ_eq_append_getElem h, List.foldl_append]
 rfl
theorem row_one {p : Addr} {n : Nat} {l : List It} (h : Row w.heap.size w (some p) n 5 (itc l)) {k : Nat} (hk : k < l.length) : Row w.heap.size w (some (p.add (k * 5))) 1 5 (itc [l[k]]) := by
 have hn := h.itlen
 have := h.itcut (k := k) (m := k + 1) (Nat.le_succ _) (by omega) (A' := some (p.add (k * 5))) (fun _ => rfl)
 rw [show (l.drop k).take (k + 1 - k) = [l[k]] by rw [Nat.add_sub_cancel_left, List.drop_eq_getElem_cons hk]; rfl] at this
 simpa using this
structure NsI (w0 w : World) (nb : Nat) (l : List It) (k : Nat) (A : Option Addr) (q : Nat) (X : Dw) (S : Sd) (Y : Yw) (V : Sv) : Prop where
 nd : NdW w0 w X S Y V nb 0 0 3
 ns : Nd.NS 4194304 S V (54 * k) 100
 m : V.M = Nd.v0.M
 st : V.st = okJoins [] (l.take k)
 row : Row w.heap.size w A q 5 (itc V.st)
 out : ∀ a, A = some a → a.block ∉ XY X Y ∧ a.block < w.heap.size
theorem NsI.len {k : Nat} {l : List It} {A : Option Addr} {q : Nat} (h : NsI w0 w nb l k A q X S Y V) : V.st.length ≤ k ∧ q = V.st.length := by
 have h1 := joins_len (l.take k) []
 rw [h.st, okJoins_eq]
 rw [List.length_take] at h1
 simp only [List.length_nil, Nat.zero_add] at h1
 exact ⟨by omega, by rw [← okJoins_eq, ← h.st]; exact h.row.itlen.symm⟩
theorem NsI.below {k : Nat} {l : List It} {A : Option Addr} {q : Nat} (h : NsI w0 w nb l k A q X S Y V) (hb : Below w.heap.size w w1) : NsI w0 w1 nb l k A q X S Y V := ⟨h.nd.below hb, h.ns, h.m, h.st, (h.row.below hb).up hb.size, fun a ha => ⟨(h.out a ha).1, Nat.lt_of_lt_of_le (h.out a ha).2 hb.size⟩⟩
theorem NsI.kept {k : Nat} {l : List It} {A : Option Addr} {q : Nat} (h : NsI w0 w nb l k A q X S Y V) (c : Chg (XY X Y) w w1) : Row w1.heap.size w1 A q 5 (itc V.st) :=
 (row_chg c h.row (Nat.le_refl _) fun j hj a ha => (h.out a ha).1).up c.size
theorem NsI.skip {k : Nat} {l : List It} {A : Option Addr} {q : Nat} (h : NsI w0 w nb l k A q X S Y V) (hk : k < l.length) (hx : (l[k]).ok = false) : NsI w0 w nb l (k + 1) A q X S Y V :=
 ⟨h.nd, h.ns.mono (by omega) (Nat.le_refl _), h.m, by rw [okJoins_snoc hk, hx, if_neg (by simp)]; exact h.st, h.row, h.out⟩
theorem NsI.more {k : Nat} {l : List It} {A A2 : Option Addr} {q q2 c2 : Nat} (h : NsI w0 w nb l k A q X S Y V) (hk : k < l.length) (hx : (l[k]).ok = true) (hn : NdAt w1 X1 S1 Y1 V1 nb 0 0 3) (c : Chg (XY X Y) w w1) (f : ∀ g ∈ XY X1 Y1, g ∈ XY X Y ∨ w.heap.size ≤ g) (ns : Nd.NS 4194304 S1 V1 (54 * k + (22 + 32 * 1)) 100) (hst : V1.st = joins V.st [l[k]]) (hm : V1.M = V.M)
  (hp : RaddPost w1 A (joins V.st [l[k]]) (.returned (.slice A2 q2 c2)) w2) : NsI w0 w2 nb l (k + 1) A2 q2 X1 S1 Y1 V1 := by
 obtain ⟨A', k', c', e, h1, h2, h3, hb⟩ := hp
 injection e with e
 injection e with e1 e2 e3
 subst e1 e2 e3
 refine ⟨(h.nd.turn hn c f).below hb, ns.mono (by omega) (Nat.le_refl _), hm.trans h.m, ?_, by rw [hst]; exact h2, fun a ha => ?_⟩
 ·rw [hst, h.st, okJoins_snoc hk, hx, if_pos rfl]
  rfl
 ·rcases h3 with rfl | h3
  ·obtain ⟨z1, z2⟩ := h.out a ha
   refine ⟨fun hmm => ?_, Nat.lt_of_lt_of_le z2 (Nat.le_trans c.size hb.size)⟩
   rcases f _ hmm with z | z
   ·exact z1 z
   ·omega
  ·refine ⟨fun hmm => ?_, (h3 a ha).2⟩
   have := hn.at_.lt _ hmm
   have := (h3 a ha).1
   omega
theorem seal_two {c d F G : Nat} (h : Nd.NS 4194304 S V c d) (hd : d + 2012 ≤ 70000) (hF : V.M.v.floor = F) (hF1 : 1 ≤ F) (hG : 1 ≤ G ∧ G ≤ 65536) :
  ∃ S2 V2 k no L, St.seal S V G = (S2, V2, some (k, no, L)) ∧ V2.M.v.files = [] ∧ (G < F ∧ k = 3 ∧ no = F ∧ L = [] ∧ V2.M.v.floor = F ∨ F ≤ G ∧ k = 7 ∧ no = G ∧ L = upto V.st G ∧ V2.M.v.floor = G) := by
 unfold St.seal
 rw [hF]
 by_cases h1 : G < F
 ·rw [if_pos h1]
  exact ⟨_, _, _, _, _, rfl, h.files, .inl ⟨h1, rfl, rfl, rfl, hF⟩⟩
 rw [if_neg h1]
 by_cases h2 : G = F
 ·rw [if_pos h2]
  exact ⟨_, _, _, _, _, rfl, h.files, .inr ⟨by omega, rfl, rfl, rfl, by omega⟩⟩
 rw [if_neg h2]
 obtain ⟨S2, V2, h3, h4, h5, h6⟩ := h.raise (by omega) hd (f := G) (by omega) (by omega)
 rw [h3, if_pos rfl]
 exact ⟨_, _, _, _, _, rfl, h4.files, .inr ⟨by omega, rfl, rfl, rfl, by rw [h6]⟩⟩
set_option maxRecDepth 100000 in
set_option maxHeartbeats 16000000 in
theorem nodeSeals_walk (A : Option Addr) (n c : Nat) (l : List It) (f g : Nat) (hf : f < 18446744073709551616) (hg : g < 18446744073709551616) (hnc : n ≤ c) (hcm : c ≤ maxLen) (hr : Row w.heap.size w A n 5 (itc l)) (hfit : ∀ x ∈ l, x.fit) (he : Env w) :
  Calls Tryz.prog 5 #[.slice A n c, .int .u64 (f : Int), .int .u64 (g : Int)] w fun e w' => e = .returned (.bool true) ∧ Below w.heap.size w w' := by
 obtain ⟨mf, hmf, hmf1⟩ := and_nat f hf 16 (by omega)
 have hmf' : bits .and .u64 (f : Int) 65535 = (mf : Int) := hmf
 obtain ⟨mg, hmg, hmg1⟩ := and_nat g hg 16 (by omega)
 have hmg' : bits .and .u64 (g : Int) 65535 = (mg : Int) := hmg
 clear hmf hmg
 have hrl := hr.itlen
 have HDN := Lib.hid (dnew_any 4194304 w)
 have HE := Lib.hid he
 have HFIT := Lib.hid hfit
 have HCM := Lib.hid (show c ≤ 9223372036854775807 by have := hcm; unfold maxLen at this; omega)
 clear he hfit hcm
 go_enter Tryz.func5, Tryz.ntmps5
 go_wp2_with fail
 with_reducible refine HDN.out.mono ?_
 rintro e w1 ⟨X0, rfl, hdk, hb1, hfo⟩
 have hop := nborn_any (by omega) (by omega) HE.out hdk hb1 hfo 0 3 (by omega) (by omega)
 rw [show ((3 : Nat) : Int) = 3 from rfl] at hop
 have HOP := Lib.hid hop
 clear hop hdk hb1 hfo HDN
 go_wp2_with fail
 with_reducible refine HOP.out.mono ?_
 rintro e w2 ⟨nb, X, Y, S, rfl, hw, hns⟩
 have HI0 : Hid (NsI w w2 nb l 0 none 0 X S Y Nd.v0) := Lib.hid ⟨hw, hns, rfl, rfl, Row.nil_, fun a ha => by cases ha⟩
 clear hw hns HOP
 obtain ⟨F, hF⟩ : ∃ F, F = mf + 1 := ⟨_, rfl⟩
 obtain ⟨G, hG⟩ : ∃ G, G = mg + 1 := ⟨_, rfl⟩
 have hF1 : (mf : Int) + 1 = (F : Int) := by omega
 have hG1 : (mg : Int) + 1 = (G : Int) := by omega
 have HFG : Hid (1 ≤ F ∧ F ≤ 65536 ∧ 1 ≤ G ∧ G ≤ 65536) := Lib.hid (by omega)
 have hwF : IntKind.u64.wrap (F : Int) = (F : Int) := IntWalk.u64_in _ (by have := HFG.out; omega)
 have hwG : IntKind.u64.wrap (G : Int) = (G : Int) := IntWalk.u64_in _ (by have := HFG.out; omega)
 clear hF hG
 go_wp2_with fail
 clear hF1 hG1 hmf' hmg' hwF hwG hmf1 hmg1
 go_loopw [9, 10] (fun v i wr => ∃ (k q : Nat) (A2 : Option Addr) (c2 : Nat), k ≤ n ∧ k ≤ 20 ∧ v = .slice A2 q c2 ∧ i = .int .i64 (k : Int) ∧ Hid (∃ X S Y V, NsI w wr nb l k A2 q X S Y V)) (fun _ i _ => 20 - (intOf i).toNat)
 case atStart => exact ⟨0, 0, none, 0, Nat.zero_le _, Nat.zero_le _, rfl, rfl, Lib.hid ⟨_, _, _, _, HI0.out⟩⟩
 case round =>
  clear HI0
  obtain ⟨k, q, A2, c2, hk, hk20, rfl, rfl, HI⟩ := hrel
  obtain ⟨X, S, Y, V, hI⟩ := HI.out
  have HI1 := Lib.hid hI
  clear HI hI
  by_cases hlt : k < n ∧ k < 20
  ·obtain ⟨hkn, hk2⟩ := hlt
   have e1 : ((k : Int) < (n : Int)) = True := eq_true (by omega)
   have e2 : ((k : Int) < (20 : Int)) = True := eq_true (by omega)
   have hbw := HI1.out.nd.bel
   obtain ⟨p, hl, rfl, hbk, hd⟩ := (hr.below hbw).it hkn
   have hok := fun W => rok_any l[k] W
   have hrow := row_one (w := w) hr hl
   have hfx := HFIT.out _ (List.getElem_mem hl)
   have hskip := fun w' (hb : Below wr.heap.size wr w') (h : (l[k]).ok = false) => (HI1.out.below hb).skip hl h
   have hmore := fun (w3 w1 w2 : World) (A A2 : Option Addr) (q q2 c2 : Nat) (X X1 : Dw) (S S1 : Sd) (Y Y1 : Yw) (V V1 : Sv) (h : NsI w w3 nb l k A q X S Y V) (hx : (l[k]).ok = true) (hn : NdAt w1 X1 S1 Y1 V1 nb 0 0 3) (c : Chg (XY X Y) w3 w1) (f : ∀ g ∈ XY X1 Y1, g ∈ XY X Y ∨ w3.heap.size ≤ g) (ns : Nd.NS 4194304 S1 V1 (54 * k + (22 + 32 * 1)) 100) (hst : V1.st = joins V.st [l[k]]) (hm : V1.M = V.M) (hp : RaddPost w1 A (joins V.st [l[k]]) (.returned (.slice A2 q2 c2)) w2) => h.more hl hx hn c f ns hst hm hp
   obtain ⟨hd0, hd1, hd2, hd3, hd4⟩ := hd
   generalize l[k] = x at *
   unfold It.val at hok
   obtain ⟨m1, hm1⟩ : ∃ m1, m1 = k + 1 := ⟨_, rfl⟩
   have hk1 : (k : Int) + 1 = (m1 : Int) := by omega
   have hm2 : m1 ≤ 20 := by omega
   have hwk : IntKind.i64.wrap (k : Int) = (k : Int) := IntWalk.i64_in _ (by omega)
   have hwu : IntKind.u64.wrap (k : Int) = (k : Int) := IntWalk.u64_in _ (by omega)
   have hwm : IntKind.i64.wrap (m1 : Int) = (m1 : Int) := IntWalk.i64_in _ (by omega)
   have hwv : IntKind.u64.wrap (m1 : Int) = (m1 : Int) := IntWalk.u64_in _ (by omega)
   have hs1 : (k : Int) ≤ (m1 : Int) := by omega
   have hs2 : (m1 : Int) ≤ (c : Int) := by omega
   have hs3 : (c = k) = False := eq_false (by omega)
   have hs4 : m1 - k = 1 := by omega
   have HK := Lib.hid hok
   have HM1 := Lib.hid hm1
   have HROW := Lib.hid hrow
   have HFX := Lib.hid hfx
   have HSK := Lib.hid hskip
   have HMO := Lib.hid hmore
   clear hok hm1 hrow hfx hskip hmore hbk
   go_wp2_with fail
   with_reducible refine (HK.out _).mono ?_
   rintro e w3 ⟨rfl, hb3⟩
   have HB3 := Lib.hid hb3
   clear hd0 hd1 hd2 hd3 hd4 hb3
   cases hx : x.ok with
   | false =>
    have HZ := Lib.hid (HSK.out _ HB3.out hx)
    clear hx
    go_wp2
    go_roundw
    case rel => exact ⟨m1, q, A2, c2, by omega, by omega, rfl, by rw [← hk1], Lib.hid ⟨_, _, _, _, by rw [HM1.out]; exact HZ.out⟩⟩
    case measure => simp [intOf]; omega
   | true =>
    have hI3 := HI1.out.below HB3.out
    have hbw3 := hI3.nd.bel
    have hlen := hI3.len
    have hrw3 := (HROW.out.below hbw3).up hbw3.size
    have hpb : p.block < w.heap.size := by
     obtain ⟨a, e, hlt, _⟩ := HROW.out.cell 0 (by simp [itc, It.cells])
     injection e with e
     subst e
     rw [add_block] at hlt
     exact hlt
    have hpo : ∀ a, some (p.add (k * 5)) = some a → a.block ∉ XY X Y := fun a ha hm => by
     injection ha with ha
     subst ha
     rw [add_block] at hm
     have := hI3.nd.low _ hm
     omega
    have hall : [x].all It.ok = true := by simp [hx]
    have hjl := joins_len [x] V.st
    have hx1 : 1 ≤ x.v := by
     have := hx
     simp only [It.ok, Bool.and_eq_true, decide_eq_true_eq] at this
     omega
    obtain ⟨S4, V4, hput, hns4, hst4, hm4⟩ := hI3.ns.put (by omega) (by omega) hall (by simp) (by simp at hjl; omega) (fun y hy => by
     rw [List.mem_singleton.1 hy, hI3.m]
     show 0 < x.v
     omega)
    have hpt := hput_any hI3.nd.at_ (hI3.ns.nrm (by omega) (by omega) (by omega)) 1 m1 0 (some (p.add (k * 5))) 1 (c - k) [x] ⟨by simp, by simp, by simp, by simp only; omega, by simp, by simp, hall, .inr (.inl rfl)⟩ hrw3 (by omega) (by omega) hpo (fun y hy => by rw [List.mem_singleton.1 hy]; exact HFX.out)
    rw [hput] at hpt
    simp only at hpt
    rw [show ((0 : Nat) : Int) = 0 from rfl] at hpt
    have HPT := Lib.hid hpt
    have HI3 := Lib.hid hI3
    have HX := Lib.hid hx
    have HN4 := Lib.hid (And.intro hns4 (And.intro hst4 hm4))
    have HRX := Lib.hid HROW.out
    clear hpt hI3 hbw3 hlen hrw3 hpb hpo hall hjl hput hns4 hst4 hm4 hx
    go_wp2_with fail
    with_reducible refine HPT.out.mono ?_
    rintro e w4 ⟨X4, Y4, e4, es4, h4, c4, f4, ga, Ba, na, ca, rfl, _⟩
    have hjn := rjoin_any A2 q c2 V.st (some (p.add (k * 5))) 1 (c - k) [x] w4 (by have := HI3.out.len; omega) HI3.out.ns.st (HI3.out.kept c4) (((HRX.out.below (HI3.out.nd.turn h4 c4 f4).bel)).up (HI3.out.nd.turn h4 c4 f4).bel.size)
    have HJN := Lib.hid hjn
    have H4 := Lib.hid (And.intro h4 (And.intro c4 f4))
    clear hjn e4 es4 h4 c4 f4 HPT
    go_wp2_with fail
    with_reducible refine HJN.out.mono ?_
    rintro e w5 hp5
    obtain ⟨A5, q5, c5, rfl, hq5, hr5, hA5, hb5⟩ := hp5
    have HZ := Lib.hid (HMO.out w3 w4 w5 A2 A5 q q5 c5 X X4 S S4 Y Y4 V V4 HI3.out HX.out H4.out.1 H4.out.2.1 H4.out.2.2 HN4.out.1 HN4.out.2.1 HN4.out.2.2 ⟨A5, q5, c5, rfl, hq5, hr5, hA5, hb5⟩)
    clear hq5 hr5 hA5 hb5 HJN
    go_wp2
    go_roundw
    case rel => exact ⟨m1, q5, A5, c5, by omega, by omega, rfl, by rw [← hk1], Lib.hid ⟨_, _, _, _, by rw [HM1.out]; exact HZ.out⟩⟩
    case measure => simp [intOf]; omega
  ·go_upto_region 7 with (fail)
   go_cut [37] (fun v wx => v = .bool false ∧ wx = wr)
   case first =>
    by_cases hkn : k < n
    ·have e1 : ((k : Int) < (n : Int)) = True := eq_true (by omega)
     have e2 : ((k : Int) < (20 : Int)) = False := eq_false (by omega)
     go_wp2_with fail
     go_meet
     exact ⟨rfl, rfl⟩
    ·have e1 : ((k : Int) < (n : Int)) = False := eq_false (by omega)
     go_wp2_with fail
     go_meet
     exact ⟨rfl, rfl⟩
   case rest =>
    obtain ⟨rfl, hwc⟩ := hcut
    obtain rfl := hwc.symm
    have hI := HI1.out
    have hlen := hI.len
    have h4 := hI.ns.four
    have hfl : V.M.v.floor = 0 := by rw [hI.m]; rfl
    obtain ⟨S4, V4, hset, hns4, hst4, hm4⟩ := hI.ns.raise (f := F) (by omega) (by omega) (by have := HFG.out; omega) (by have := HFG.out; omega)
    have hs1 : St.seal S V F = (S4, V4, some (7, F, upto V.st F)) := by
     have := HFG.out
     unfold St.seal
     rw [hfl, if_neg (by omega), if_neg (by omega), hset]
     rfl
    have hsl := hseal_any hI.nd.at_ (hI.ns.nrm (by omega) (by omega) (by omega)) 1 50 F none 0 0 [] ⟨by simp, by simp, by simp, by simp, by have := HFG.out; simp only; omega, by simp, rfl, .inl rfl⟩ Row.nil_ HFG.out.1 ⟨h4.2.1, h4.2.2.1, h4.2.2.2⟩
    rw [hs1] at hsl
    simp only at hsl
    rw [show ((50 : Nat) : Int) = 50 from rfl] at hsl
    have HSL := Lib.hid hsl
    have H4 := Lib.hid (And.intro hns4 (And.intro hst4 hm4))
    have HLE := Lib.hid hlen
    clear hsl hI hlen h4 hfl hset hns4 hst4 hm4 hs1
    go_wp2_with fail
    with_reducible refine HSL.out.mono ?_
    rintro e w5 ⟨X5, Y5, e5, es5, h5, c5, f5, ga, Ba, na, ca, rfl, ha, hga, hra, hBa, hgx, hBx⟩
    have HN5 := Lib.hid (HI1.out.nd.turn h5 c5 f5)
    have HR5 := Lib.hid (HI1.out.kept c5)
    have HA5 := Lib.hid (And.intro ha (And.intro hra (And.intro hgx hBx)))
    have ho5 : ∀ j, j < (itc V.st).length → ∀ a, A2 = some a → a.block ∉ XY X5 Y5 := fun j _ a ha hm => by
     obtain ⟨z1, z2⟩ := HI1.out.out a ha
     rcases f5 _ hm with z | z
     ·exact z1 z
     ·omega
    have HO5 := Lib.hid ho5
    clear e5 es5 h5 c5 f5 ha hga hra hBa hgx hBx HSL ho5
    obtain ⟨S6, V6, kb, nob, LB, hs2, hfi6, hcs⟩ := seal_two (G := G) H4.out.1 (by omega) (by rw [H4.out.2.2]) HFG.out.1 ⟨HFG.out.2.2.1, HFG.out.2.2.2⟩
    have h44 := H4.out.1.four
    have hsl := hseal_any HN5.out.at_ (H4.out.1.nrm (by have := HLE.out; omega) (by omega) (by rw [H4.out.2.1]; have := HLE.out; omega)) 2 51 G none 0 0 [] ⟨by simp, by simp, by simp, by simp, by have := HFG.out; simp only; omega, by simp, rfl, .inl rfl⟩ Row.nil_ HFG.out.2.2.1 ⟨h44.2.1, h44.2.2.1, h44.2.2.2⟩
    rw [hs2] at hsl
    simp only at hsl
    rw [show ((51 : Nat) : Int) = 51 from rfl] at hsl
    have HSL := Lib.hid hsl
    have HCS := Lib.hid (And.intro hcs hfi6)
    clear hsl hs2 h44 hcs hfi6
    go_wp2_with fail
    with_reducible refine HSL.out.mono ?_
    rintro e w6 ⟨X6, Y6, e6, es6, h6, c6, f6, gb, Bb, nb2, cb, rfl, hb, hgb, hrb, hBb, hgx, hBx⟩
    have hn6 := HN5.out.turn h6 c6 f6
    have hxa := BoxO.chg HA5.out.1 c6 HA5.out.2.2.1
    have hra := (row_chg c6 HA5.out.2.1 (Nat.le_refl _) fun j _ a ha => HA5.out.2.2.2 a ha).up c6.size
    have hrs := (row_chg c6 HR5.out (Nat.le_refl _) HO5.out).up c6.size
    obtain ⟨st0, hst0⟩ : ∃ st0, st0 = V.st := ⟨_, rfl⟩
    have hst4 : V4.st = st0 := by rw [H4.out.2.1, hst0]
    have hcs := HCS.out
    rw [hst4] at hcs
    rw [← hst0] at hra hrs
    have hlen : st0.length ≤ 20 ∧ q = st0.length := by rw [hst0]; have := HLE.out; omega
    have hla := hra.itlen
    have hlu : (upto st0 F).length ≤ 20 := Nat.le_trans (List.length_filter_le _ _) hlen.1
    have HK := Lib.hid (fun W' (hb' : Below w6.heap.size w6 W') => And.intro (hxa.below hb') (And.intro (BoxO.below hb hb') (And.intro ((hra.below hb').up hb'.size) (And.intro ((hrb.below hb').up hb'.size) (And.intro ((hrs.below hb').up hb'.size) (hn6.below hb'))))))
    have HCS2 := Lib.hid (And.intro hcs HCS.out.2)
    have HLN := Lib.hid (And.intro hlen (And.intro hla hlu))
    have HUP := Lib.hid (fun W' (hb' : Below w6.heap.size w6 W') => rupto_any A2 q c2 st0 F W' (by omega) ((hrs.below hb').up hb'.size))
    clear e6 es6 h6 c6 f6 hb hgb hrb hBb hgx hBx hn6 hxa hra hrs hst4 hcs hlen hla hlu hst0 HSL HN5 HA5 HR5 HO5 HI1 H4 HLE HCS
    go_wp2_with fail
    refine wp_region_held_drew (S := fun w' => Below w6.heap.size w6 w') rfl (below_drew (Below.refl _ _)) (fun hSw => ?_)
    refine wpT (i := 0) (v := ?vns0) ?hns0 hSw ?kns0
    case hns0 => (intro w hSw; (obtain ⟨x, y, _, _, _, _⟩ := HK.out _ hSw; have a0 := x.cell 0; have a4 := x.cell 4; have a5 := x.cell 5; have b0 := y.cell 0; simp only [gE0, gE1] at a0 a4 a5 b0; clear x y); go_simp; try (with_reducible rfl))
    go_simp
    refine wpT (i := 1) (v := ?vns1) ?hns1 hSw ?kns1
    case hns1 => (intro w hSw; (obtain ⟨x, y, _, _, _, _⟩ := HK.out _ hSw; have a0 := x.cell 0; have a4 := x.cell 4; have a5 := x.cell 5; have b0 := y.cell 0; simp only [gE0, gE1] at a0 a4 a5 b0; clear x y); go_simp; try (with_reducible rfl))
    go_simp
    refine wpT (i := 2) (v := ?vns2) ?hns2 hSw ?kns2
    case hns2 => (intro w hSw; (obtain ⟨x, y, _, _, _, _⟩ := HK.out _ hSw; have a0 := x.cell 0; have a4 := x.cell 4; have a5 := x.cell 5; have b0 := y.cell 0; simp only [gE0, gE1] at a0 a4 a5 b0; clear x y); go_simp; try (with_reducible rfl))
    go_simp
    refine wpT (i := 3) (v := ?vns3) ?hns3 hSw ?kns3
    case hns3 => (intro w hSw; (obtain ⟨x, y, _, _, _, _⟩ := HK.out _ hSw; have a0 := x.cell 0; have a4 := x.cell 4; have a5 := x.cell 5; have b0 := y.cell 0; simp only [gE0, gE1] at a0 a4 a5 b0; clear x y); go_simp; try (with_reducible rfl))
    go_simp
    refine wpT (i := 4) (v := ?vns4) ?hns4 hSw ?kns4
    case hns4 => (intro w hSw; (obtain ⟨x, y, _, _, _, _⟩ := HK.out _ hSw; have a0 := x.cell 0; have a4 := x.cell 4; have a5 := x.cell 5; have b0 := y.cell 0; simp only [gE0, gE1] at a0 a4 a5 b0; clear x y); go_simp; try (with_reducible rfl))
    go_simp
    refine wpT (i := 5) (v := ?vns5) ?hns5 hSw ?kns5
    case hns5 => (intro w hSw; (obtain ⟨x, y, _, _, _, _⟩ := HK.out _ hSw; have a0 := x.cell 0; have a4 := x.cell 4; have a5 := x.cell 5; have b0 := y.cell 0; simp only [gE0, gE1] at a0 a4 a5 b0; clear x y); go_simp; try (with_reducible rfl))
    go_simp
    refine wpT (i := 6) (v := ?vns6) ?hns6 hSw ?kns6
    case hns6 => (intro w hSw; (obtain ⟨x, y, _, _, _, _⟩ := HK.out _ hSw; have a0 := x.cell 0; have a4 := x.cell 4; have a5 := x.cell 5; have b0 := y.cell 0; simp only [gE0, gE1] at a0 a4 a5 b0; clear x y); go_simp; try (with_reducible rfl))
    go_simp
    refine wpT (i := 7) (v := ?vns7) ?hns7 hSw ?kns7
    case hns7 => (intro w hSw; (obtain ⟨x, y, _, _, _, _⟩ := HK.out _ hSw; have a0 := x.cell 0; have a4 := x.cell 4; have a5 := x.cell 5; have b0 := y.cell 0; simp only [gE0, gE1] at a0 a4 a5 b0; clear x y); go_simp; try (with_reducible rfl))
    go_simp
    refine wpT (i := 8) (v := ?vns8) ?hns8 hSw ?kns8
    case hns8 => (intro w hSw; (obtain ⟨x, y, _, _, _, _⟩ := HK.out _ hSw; have a0 := x.cell 0; have a4 := x.cell 4; have a5 := x.cell 5; have b0 := y.cell 0; simp only [gE0, gE1] at a0 a4 a5 b0; clear x y); go_simp; try (with_reducible rfl))
    go_simp
    refine wpT (i := 9) (v := ?vns9) ?hns9 hSw ?kns9
    case hns9 => (intro w hSw; (obtain ⟨x, y, _, _, _, _⟩ := HK.out _ hSw; have a0 := x.cell 0; have a4 := x.cell 4; have a5 := x.cell 5; have b0 := y.cell 0; simp only [gE0, gE1] at a0 a4 a5 b0; clear x y); go_simp; try (with_reducible rfl))
    go_simp
    refine wpT (i := 10) (v := ?vns10) ?hns10 hSw ?kns10
    case hns10 => (intro w hSw; (obtain ⟨x, y, _, _, _, _⟩ := HK.out _ hSw; have a0 := x.cell 0; have a4 := x.cell 4; have a5 := x.cell 5; have b0 := y.cell 0; simp only [gE0, gE1] at a0 a4 a5 b0; clear x y); go_simp; try (with_reducible rfl))
    go_simp
    refine wpT (i := 11) (v := ?vns11) ?hns11 hSw ?kns11
    case hns11 => (intro w hSw; (obtain ⟨x, y, _, _, _, _⟩ := HK.out _ hSw; have a0 := x.cell 0; have a4 := x.cell 4; have a5 := x.cell 5; have b0 := y.cell 0; simp only [gE0, gE1] at a0 a4 a5 b0; clear x y); go_simp; try (with_reducible rfl))
    go_simp
    refine wpT (i := 12) (v := ?vns12) ?hns12 hSw ?kns12
    case hns12 => (intro w hSw; (obtain ⟨x, y, _, _, _, _⟩ := HK.out _ hSw; have a0 := x.cell 0; have a4 := x.cell 4; have a5 := x.cell 5; have b0 := y.cell 0; simp only [gE0, gE1] at a0 a4 a5 b0; clear x y); go_simp; try (with_reducible rfl))
    go_simp
    refine wpT (i := 13) (v := ?vns13) ?hns13 hSw ?kns13
    case hns13 => (intro w hSw; (obtain ⟨x, y, _, _, _, _⟩ := HK.out _ hSw; have a0 := x.cell 0; have a4 := x.cell 4; have a5 := x.cell 5; have b0 := y.cell 0; simp only [gE0, gE1] at a0 a4 a5 b0; clear x y); go_simp; try (with_reducible rfl))
    go_simp
    refine wpT (i := 14) (v := ?vns14) ?hns14 hSw ?kns14
    case hns14 => (intro w hSw; (obtain ⟨x, y, _, _, _, _⟩ := HK.out _ hSw; have a0 := x.cell 0; have a4 := x.cell 4; have a5 := x.cell 5; have b0 := y.cell 0; simp only [gE0, gE1] at a0 a4 a5 b0; clear x y); go_simp; try (with_reducible rfl))
    go_simp
    refine wpT (i := 15) (v := ?vns15) ?hns15 hSw ?kns15
    case hns15 => (intro w hSw; (obtain ⟨x, y, _, _, _, _⟩ := HK.out _ hSw; have a0 := x.cell 0; have a4 := x.cell 4; have a5 := x.cell 5; have b0 := y.cell 0; simp only [gE0, gE1] at a0 a4 a5 b0; clear x y); go_simp; try (with_reducible rfl))
    go_simp
    refine wpT (i := 16) (v := ?vns16) ?hns16 hSw ?kns16
    case hns16 => (intro w hSw; (obtain ⟨x, y, _, _, _, _⟩ := HK.out _ hSw; have a0 := x.cell 0; have a4 := x.cell 4; have a5 := x.cell 5; have b0 := y.cell 0; simp only [gE0, gE1] at a0 a4 a5 b0; clear x y); go_simp; try (with_reducible rfl))
    go_simp
    refine wpT (i := 17) (v := ?vns17) ?hns17 hSw ?kns17
    case hns17 => (intro w hSw; (obtain ⟨x, y, _, _, _, _⟩ := HK.out _ hSw; have a0 := x.cell 0; have a4 := x.cell 4; have a5 := x.cell 5; have b0 := y.cell 0; simp only [gE0, gE1] at a0 a4 a5 b0; clear x y); go_simp; try (with_reducible rfl))
    go_simp
    refine wpT (i := 18) (v := ?vns18) ?hns18 hSw ?kns18
    case hns18 => (intro w hSw; (obtain ⟨x, y, _, _, _, _⟩ := HK.out _ hSw; have a0 := x.cell 0; have a4 := x.cell 4; have a5 := x.cell 5; have b0 := y.cell 0; simp only [gE0, gE1] at a0 a4 a5 b0; clear x y); go_simp; try (with_reducible rfl))
    go_simp
    refine wpT (i := 19) (v := ?vns19) ?hns19 hSw ?kns19
    case hns19 => (intro w hSw; (obtain ⟨x, y, _, _, _, _⟩ := HK.out _ hSw; have a0 := x.cell 0; have a4 := x.cell 4; have a5 := x.cell 5; have b0 := y.cell 0; simp only [gE0, gE1] at a0 a4 a5 b0; clear x y); go_simp; try (with_reducible rfl))
    go_simp
    refine wpT (i := 20) (v := ?vns20) ?hns20 hSw ?kns20
    case hns20 => (intro w hSw; (obtain ⟨x, y, _, _, _, _⟩ := HK.out _ hSw; have a0 := x.cell 0; have a4 := x.cell 4; have a5 := x.cell 5; have b0 := y.cell 0; simp only [gE0, gE1] at a0 a4 a5 b0; clear x y); go_simp; try (with_reducible rfl))
    go_simp
    refine wpT (i := 21) (v := ?vns21) ?hns21 hSw ?kns21
    case hns21 => (intro w hSw; (obtain ⟨x, y, _, _, _, _⟩ := HK.out _ hSw; have a0 := x.cell 0; have a4 := x.cell 4; have a5 := x.cell 5; have b0 := y.cell 0; simp only [gE0, gE1] at a0 a4 a5 b0; clear x y); go_simp; try (with_reducible rfl))
    go_simp
    refine wpT (i := 22) (v := ?vns22) ?hns22 hSw ?kns22
    case hns22 => (intro w hSw; (obtain ⟨x, y, _, _, _, _⟩ := HK.out _ hSw; have a0 := x.cell 0; have a4 := x.cell 4; have a5 := x.cell 5; have b0 := y.cell 0; simp only [gE0, gE1] at a0 a4 a5 b0; clear x y); go_simp; try (with_reducible rfl))
    go_simp
    refine wpT (i := 23) (v := ?vns23) ?hns23 hSw ?kns23
    case hns23 => (intro w hSw; (obtain ⟨x, y, _, _, _, _⟩ := HK.out _ hSw; have a0 := x.cell 0; have a4 := x.cell 4; have a5 := x.cell 5; have b0 := y.cell 0; simp only [gE0, gE1] at a0 a4 a5 b0; clear x y); go_simp; try (with_reducible rfl))
    go_simp
    refine wpT (i := 24) (v := ?vns24) ?hns24 hSw ?kns24
    case hns24 => (intro w hSw; (obtain ⟨x, y, _, _, _, _⟩ := HK.out _ hSw; have a0 := x.cell 0; have a4 := x.cell 4; have a5 := x.cell 5; have b0 := y.cell 0; simp only [gE0, gE1] at a0 a4 a5 b0; clear x y); go_simp; try (with_reducible rfl))
    go_simp
    refine wpT (i := 25) (v := ?vns25) ?hns25 hSw ?kns25
    case hns25 => (intro w hSw; (obtain ⟨x, y, _, _, _, _⟩ := HK.out _ hSw; have a0 := x.cell 0; have a4 := x.cell 4; have a5 := x.cell 5; have b0 := y.cell 0; simp only [gE0, gE1] at a0 a4 a5 b0; clear x y); go_simp; try (with_reducible rfl))
    go_simp
    refine wpT (i := 26) (v := ?vns26) ?hns26 hSw ?kns26
    case hns26 => (intro w hSw; (obtain ⟨x, y, _, _, _, _⟩ := HK.out _ hSw; have a0 := x.cell 0; have a4 := x.cell 4; have a5 := x.cell 5; have b0 := y.cell 0; simp only [gE0, gE1] at a0 a4 a5 b0; clear x y); go_simp; try (with_reducible rfl))
    go_simp
    refine wpT (i := 27) (v := ?vns27) ?hns27 hSw ?kns27
    case hns27 => (intro w hSw; (obtain ⟨x, y, _, _, _, _⟩ := HK.out _ hSw; have a0 := x.cell 0; have a4 := x.cell 4; have a5 := x.cell 5; have b0 := y.cell 0; simp only [gE0, gE1] at a0 a4 a5 b0; clear x y); go_simp; try (with_reducible rfl))
    go_simp
    refine wpT (i := 28) (v := ?vns28) ?hns28 hSw ?kns28
    case hns28 => (intro w hSw; (obtain ⟨x, y, _, _, _, _⟩ := HK.out _ hSw; have a0 := x.cell 0; have a4 := x.cell 4; have a5 := x.cell 5; have b0 := y.cell 0; simp only [gE0, gE1] at a0 a4 a5 b0; clear x y); go_simp; try (with_reducible rfl))
    go_simp
    refine wpT (i := 29) (v := ?vns29) ?hns29 hSw ?kns29
    case hns29 => (intro w hSw; (obtain ⟨x, y, _, _, _, _⟩ := HK.out _ hSw; have a0 := x.cell 0; have a4 := x.cell 4; have a5 := x.cell 5; have b0 := y.cell 0; simp only [gE0, gE1] at a0 a4 a5 b0; clear x y); go_simp; try (with_reducible rfl))
    go_simp
    refine wpAnyH_ready (rs := [30]) (by kernel_rfl) (by simp) ?_
    refine AllReadyH.cons rfl (fun K hK => ?_) AllReadyH.nil
    go_simp
    with_reducible refine (HUP.out _ hSw).mono ?_
    rintro e w7 ⟨A7, k7, c7, rfl, hk7, hi7, hb7⟩; have HEQ := Lib.hid (requal_any Ba na ca (upto st0 F) A7 k7 c7 (upto st0 F) w7 (by have := HLN.out; omega) (by have := hi7.row.itlen; have := HLN.out; omega) (HK.out _ (later_ hSw hb7)).2.2.1 hi7.row); clear hk7
    go_simp
    refine hK.out _ _ (later_ hSw hb7) (fun hSn => ?_)
    clear hK K hSw
    have hSw := hSn
    clear hSn
    go_simp
    refine wpAnyH_ready (rs := [31]) (by kernel_rfl) (by simp) ?_
    refine AllReadyH.cons rfl (fun K hK => ?_) AllReadyH.nil
    go_simp
    with_reducible refine HEQ.out.mono ?_
    rintro e w8 ⟨rfl, hb8⟩
    go_simp
    refine hK.out _ _ (later_ hSw hb8) (fun hSn => ?_)
    clear hK K hSw
    have hSw := hSn
    clear hSn
    go_simp
    refine wpT (i := 32) (v := ?vns32) ?hns32 hSw ?kns32
    case hns32 => (intro w hSw; (obtain ⟨x, y, _, _, _, _⟩ := HK.out _ hSw; have a0 := x.cell 0; have a4 := x.cell 4; have a5 := x.cell 5; have b0 := y.cell 0; simp only [gE0, gE1] at a0 a4 a5 b0; clear x y); go_simp; try (with_reducible rfl))
    go_simp
    refine wpT (i := 33) (v := ?vns33) ?hns33 hSw ?kns33
    case hns33 => (intro w hSw; (obtain ⟨x, y, _, _, _, _⟩ := HK.out _ hSw; have a0 := x.cell 0; have a4 := x.cell 4; have a5 := x.cell 5; have b0 := y.cell 0; simp only [gE0, gE1] at a0 a4 a5 b0; clear x y); go_simp; try (with_reducible rfl))
    go_simp
    refine wpAnyH_done (by kernel_rfl) ?_ _
    have hb68 : Below w6.heap.size w6 w8 := later_ (later_ (below_drew (Below.refl _ _)) hb7) hb8
    have HB8 := Lib.hid hb68
    clear hSw hb7 hb8 hi7 HEQ HUP hb68
    have hfd : ∀ (x1 x2 x3 x4 : Int) W', (Instr.field 32 (.agg #[.int .u64 x1, .int .u64 x2, .int .u64 x3, .int .u64 x4]) 0).run Tryz.prog W' = .ok (.int .u64 x1) W' := fun _ _ _ _ _ => rfl
    have HK8 : Hid (∀ W', Below w8.heap.size w8 W' → BoxO W' 47 gb [.int .i64 kb, .int .i64 0, .int .i64 2, .int .u64 51, .int .u64 (nob : Int), .slice Bb nb2 cb] ∧ Row W'.heap.size W' Bb nb2 5 (itc LB) ∧ Row W'.heap.size W' A2 q 5 (itc st0) ∧ NdW w W' X6 S6 Y6 V6 nb 0 0 3) := Lib.hid (fun W' hb => by
     obtain ⟨_, q2, _, q4, q5, q6⟩ := HK.out W' (later_ HB8.out hb)
     exact ⟨q2, q4, q5, q6⟩)
    have HME := Lib.hid (fun W' (hb : Below w8.heap.size w8 W') => (by
     have := nmeta_any (HK8.out W' hb).2.2.2.at_ (by rw [HCS2.out.2]; simp)
     unfold St.meta_ Mt.val at this
     exact this : Calls Tryz.prog 24 #[.pointer (some ⟨nb, 0, none⟩)] W' fun e w' => e = .returned (.agg #[.int .u64 (V6.M.v.floor : Int), .int .u64 (V6.M.v.cert : Int), .int .u64 (V6.M.v.at_ : Int), .int .u64 (V6.M.v.lease : Int)]) ∧ Below W'.heap.size W' w'))
    have HAW := Lib.hid (fun W' (hb : Below w8.heap.size w8 W') => naw_any (HE.out.below (HK8.out W' hb).2.2.2.bel))
    clear HK
    rcases HCS2.out.1 with ⟨hlt2, hkb, hno, hLB, hfl⟩ | ⟨hge, hkb, hno, hLB, hfl⟩
    ·have hGF : ((G : Int) < (F : Int)) = True := eq_true (by omega)
     subst hkb hno
     rw [hfl] at HME
     obtain ⟨x, _, _, _⟩ := HK8.out w8 (Below.refl _ _)
     have b0 := x.cell 0
     have b4 := x.cell 4
     simp only [gE0, gE1] at b0 b4
     clear x hlt2 hLB hfl
     go_wp2_with fail
     with_reducible refine (HME.out _ (Below.refl _ _)).mono ?_
     rintro e w9 ⟨rfl, hb9⟩
     have HB9 := Lib.hid hb9
     clear hb9 b0 b4
     go_wp2_with fail
     with_reducible refine (HAW.out _ HB9.out).mono ?_
     rintro e w10 ⟨rfl, hb10⟩
     have HZ := Lib.hid (HK8.out w10 (later_ HB9.out hb10)).2.2.2.bel
     clear hb10
     go_wp2
     go_ret
     exact ⟨rfl, HZ.out⟩
    ·have hGF : ((G : Int) < (F : Int)) = False := eq_false (by omega)
     subst hkb
     obtain rfl := hno.symm
     rw [hfl] at HME
     have HUP := Lib.hid (fun W' (hb' : Below w8.heap.size w8 W') => rupto_any A2 q c2 st0 G W' (by have := HLN.out; omega) (HK8.out W' hb').2.2.1)
     have HLB := Lib.hid hLB
     clear hge hLB hfl
     go_wp2_with fail
     refine wp_region_held_drew (S := fun w' => Below w8.heap.size w8 w') rfl (below_drew (Below.refl _ _)) (fun hSw => ?_)
     refine wpT (i := 0) (v := ?vnt0) ?hnt0 hSw ?knt0
     case hnt0 => (intro w hSw; (obtain ⟨y, _, _, _⟩ := HK8.out _ hSw; have b0 := y.cell 0; have b4 := y.cell 4; have b5 := y.cell 5; simp only [gE0, gE1] at b0 b4 b5; clear y); go_simp; try (with_reducible rfl))
     go_simp
     refine wpT (i := 1) (v := ?vnt1) ?hnt1 hSw ?knt1
     case hnt1 => (intro w hSw; (obtain ⟨y, _, _, _⟩ := HK8.out _ hSw; have b0 := y.cell 0; have b4 := y.cell 4; have b5 := y.cell 5; simp only [gE0, gE1] at b0 b4 b5; clear y); go_simp; try (with_reducible rfl))
     go_simp
     refine wpT (i := 2) (v := ?vnt2) ?hnt2 hSw ?knt2
     case hnt2 => (intro w hSw; (obtain ⟨y, _, _, _⟩ := HK8.out _ hSw; have b0 := y.cell 0; have b4 := y.cell 4; have b5 := y.cell 5; simp only [gE0, gE1] at b0 b4 b5; clear y); go_simp; try (with_reducible rfl))
     go_simp
     refine wpT (i := 3) (v := ?vnt3) ?hnt3 hSw ?knt3
     case hnt3 => (intro w hSw; (obtain ⟨y, _, _, _⟩ := HK8.out _ hSw; have b0 := y.cell 0; have b4 := y.cell 4; have b5 := y.cell 5; simp only [gE0, gE1] at b0 b4 b5; clear y); go_simp; try (with_reducible rfl))
     go_simp
     refine wpT (i := 4) (v := ?vnt4) ?hnt4 hSw ?knt4
     case hnt4 => (intro w hSw; (obtain ⟨y, _, _, _⟩ := HK8.out _ hSw; have b0 := y.cell 0; have b4 := y.cell 4; have b5 := y.cell 5; simp only [gE0, gE1] at b0 b4 b5; clear y); go_simp; try (with_reducible rfl))
     go_simp
     refine wpT (i := 5) (v := ?vnt5) ?hnt5 hSw ?knt5
     case hnt5 => (intro w hSw; (obtain ⟨y, _, _, _⟩ := HK8.out _ hSw; have b0 := y.cell 0; have b4 := y.cell 4; have b5 := y.cell 5; simp only [gE0, gE1] at b0 b4 b5; clear y); go_simp; try (with_reducible rfl))
     go_simp
     refine wpT (i := 6) (v := ?vnt6) ?hnt6 hSw ?knt6
     case hnt6 => (intro w hSw; (obtain ⟨y, _, _, _⟩ := HK8.out _ hSw; have b0 := y.cell 0; have b4 := y.cell 4; have b5 := y.cell 5; simp only [gE0, gE1] at b0 b4 b5; clear y); go_simp; try (with_reducible rfl))
     go_simp
     refine wpT (i := 7) (v := ?vnt7) ?hnt7 hSw ?knt7
     case hnt7 => (intro w hSw; (obtain ⟨y, _, _, _⟩ := HK8.out _ hSw; have b0 := y.cell 0; have b4 := y.cell 4; have b5 := y.cell 5; simp only [gE0, gE1] at b0 b4 b5; clear y); go_simp; try (with_reducible rfl))
     go_simp
     refine wpT (i := 8) (v := ?vnt8) ?hnt8 hSw ?knt8
     case hnt8 => (intro w hSw; (obtain ⟨y, _, _, _⟩ := HK8.out _ hSw; have b0 := y.cell 0; have b4 := y.cell 4; have b5 := y.cell 5; simp only [gE0, gE1] at b0 b4 b5; clear y); go_simp; try (with_reducible rfl))
     go_simp
     refine wpT (i := 9) (v := ?vnt9) ?hnt9 hSw ?knt9
     case hnt9 => (intro w hSw; (obtain ⟨y, _, _, _⟩ := HK8.out _ hSw; have b0 := y.cell 0; have b4 := y.cell 4; have b5 := y.cell 5; simp only [gE0, gE1] at b0 b4 b5; clear y); go_simp; try (with_reducible rfl))
     go_simp
     refine wpT (i := 10) (v := ?vnt10) ?hnt10 hSw ?knt10
     case hnt10 => (intro w hSw; (obtain ⟨y, _, _, _⟩ := HK8.out _ hSw; have b0 := y.cell 0; have b4 := y.cell 4; have b5 := y.cell 5; simp only [gE0, gE1] at b0 b4 b5; clear y); go_simp; try (with_reducible rfl))
     go_simp
     refine wpT (i := 11) (v := ?vnt11) ?hnt11 hSw ?knt11
     case hnt11 => (intro w hSw; (obtain ⟨y, _, _, _⟩ := HK8.out _ hSw; have b0 := y.cell 0; have b4 := y.cell 4; have b5 := y.cell 5; simp only [gE0, gE1] at b0 b4 b5; clear y); go_simp; try (with_reducible rfl))
     go_simp
     refine wpT (i := 12) (v := ?vnt12) ?hnt12 hSw ?knt12
     case hnt12 => (intro w hSw; (obtain ⟨y, _, _, _⟩ := HK8.out _ hSw; have b0 := y.cell 0; have b4 := y.cell 4; have b5 := y.cell 5; simp only [gE0, gE1] at b0 b4 b5; clear y); go_simp; try (with_reducible rfl))
     go_simp
     refine wpT (i := 13) (v := ?vnt13) ?hnt13 hSw ?knt13
     case hnt13 => (intro w hSw; (obtain ⟨y, _, _, _⟩ := HK8.out _ hSw; have b0 := y.cell 0; have b4 := y.cell 4; have b5 := y.cell 5; simp only [gE0, gE1] at b0 b4 b5; clear y); go_simp; try (with_reducible rfl))
     go_simp
     refine wpT (i := 14) (v := ?vnt14) ?hnt14 hSw ?knt14
     case hnt14 => (intro w hSw; (obtain ⟨y, _, _, _⟩ := HK8.out _ hSw; have b0 := y.cell 0; have b4 := y.cell 4; have b5 := y.cell 5; simp only [gE0, gE1] at b0 b4 b5; clear y); go_simp; try (with_reducible rfl))
     go_simp
     refine wpT (i := 15) (v := ?vnt15) ?hnt15 hSw ?knt15
     case hnt15 => (intro w hSw; (obtain ⟨y, _, _, _⟩ := HK8.out _ hSw; have b0 := y.cell 0; have b4 := y.cell 4; have b5 := y.cell 5; simp only [gE0, gE1] at b0 b4 b5; clear y); go_simp; try (with_reducible rfl))
     go_simp
     refine wpT (i := 16) (v := ?vnt16) ?hnt16 hSw ?knt16
     case hnt16 => (intro w hSw; (obtain ⟨y, _, _, _⟩ := HK8.out _ hSw; have b0 := y.cell 0; have b4 := y.cell 4; have b5 := y.cell 5; simp only [gE0, gE1] at b0 b4 b5; clear y); go_simp; try (with_reducible rfl))
     go_simp
     refine wpT (i := 17) (v := ?vnt17) ?hnt17 hSw ?knt17
     case hnt17 => (intro w hSw; (obtain ⟨y, _, _, _⟩ := HK8.out _ hSw; have b0 := y.cell 0; have b4 := y.cell 4; have b5 := y.cell 5; simp only [gE0, gE1] at b0 b4 b5; clear y); go_simp; try (with_reducible rfl))
     go_simp
     refine wpT (i := 18) (v := ?vnt18) ?hnt18 hSw ?knt18
     case hnt18 => (intro w hSw; (obtain ⟨y, _, _, _⟩ := HK8.out _ hSw; have b0 := y.cell 0; have b4 := y.cell 4; have b5 := y.cell 5; simp only [gE0, gE1] at b0 b4 b5; clear y); go_simp; try (with_reducible rfl))
     go_simp
     refine wpT (i := 19) (v := ?vnt19) ?hnt19 hSw ?knt19
     case hnt19 => (intro w hSw; (obtain ⟨y, _, _, _⟩ := HK8.out _ hSw; have b0 := y.cell 0; have b4 := y.cell 4; have b5 := y.cell 5; simp only [gE0, gE1] at b0 b4 b5; clear y); go_simp; try (with_reducible rfl))
     go_simp
     refine wpAnyH_ready (rs := [20]) (by kernel_rfl) (by simp) ?_
     refine AllReadyH.cons rfl (fun K hK => ?_) AllReadyH.nil
     go_simp
     with_reducible refine (HUP.out _ hSw).mono ?_
     rintro e w9 ⟨A9, k9, c9, rfl, hk9, hi9, hb9⟩; have HEQ := Lib.hid (requal_any Bb nb2 cb LB A9 k9 c9 (upto st0 G) w9 (by have h1 := (HK8.out _ (later_ hSw hb9)).2.1.itlen; have h2 := List.length_filter_le (fun a : It => decide (a.v ≤ G)) st0; rw [HLB.out] at h1; unfold upto at h1; have := HLN.out; omega) (by have h1 := hi9.row.itlen; have h2 := List.length_filter_le (fun a : It => decide (a.v ≤ G)) st0; unfold upto at h1; have := HLN.out; omega) (HK8.out _ (later_ hSw hb9)).2.1 hi9.row); (rw [HLB.out, decide_eq_true rfl] at HEQ); clear hk9
     go_simp
     refine hK.out _ _ (later_ hSw hb9) (fun hSn => ?_)
     clear hK K hSw
     have hSw := hSn
     clear hSn
     go_simp
     refine wpAnyH_ready (rs := [21]) (by kernel_rfl) (by simp) ?_
     refine AllReadyH.cons rfl (fun K hK => ?_) AllReadyH.nil
     go_simp
     with_reducible refine HEQ.out.mono ?_
     rintro e w10 ⟨rfl, hb10⟩
     go_simp
     refine hK.out _ _ (later_ hSw hb10) (fun hSn => ?_)
     clear hK K hSw
     have hSw := hSn
     clear hSn
     go_simp
     refine wpT (i := 22) (v := ?vnt22) ?hnt22 hSw ?knt22
     case hnt22 => (intro w hSw; (obtain ⟨y, _, _, _⟩ := HK8.out _ hSw; have b0 := y.cell 0; have b4 := y.cell 4; have b5 := y.cell 5; simp only [gE0, gE1] at b0 b4 b5; clear y); go_simp; try (with_reducible rfl))
     go_simp
     refine wpT (i := 23) (v := ?vnt23) ?hnt23 hSw ?knt23
     case hnt23 => (intro w hSw; (obtain ⟨y, _, _, _⟩ := HK8.out _ hSw; have b0 := y.cell 0; have b4 := y.cell 4; have b5 := y.cell 5; simp only [gE0, gE1] at b0 b4 b5; clear y); go_simp; try (with_reducible rfl))
     go_simp
     refine wpT (i := 24) (v := ?vnt24) ?hnt24 hSw ?knt24
     case hnt24 => (intro w hSw; (obtain ⟨y, _, _, _⟩ := HK8.out _ hSw; have b0 := y.cell 0; have b4 := y.cell 4; have b5 := y.cell 5; simp only [gE0, gE1] at b0 b4 b5; clear y); go_simp; try (with_reducible rfl))
     go_simp
     refine wpT (i := 27) (v := ?vnt27) ?hnt27 hSw ?knt27
     case hnt27 => (intro w hSw; (obtain ⟨y, _, _, _⟩ := HK8.out _ hSw; have b0 := y.cell 0; have b4 := y.cell 4; have b5 := y.cell 5; simp only [gE0, gE1] at b0 b4 b5; clear y); go_simp; try (with_reducible rfl))
     go_simp
     refine wpAnyH_ready (rs := [25]) (by kernel_rfl) (by simp) ?_
     refine AllReadyH.cons rfl (fun K hK => ?_) AllReadyH.nil
     go_simp
     with_reducible refine (HME.out _ hSw).mono ?_
     rintro e w11 ⟨rfl, hb11⟩
     go_simp
     refine hK.out _ _ (later_ hSw hb11) (fun hSn => ?_)
     clear hK K hSw
     have hSw := hSn
     clear hSn
     go_simp
     refine wpT (i := 26) (v := ?vnt26) ?hnt26 hSw ?knt26
     case hnt26 => (intro w hSw; (obtain ⟨y, _, _, _⟩ := HK8.out _ hSw; have b0 := y.cell 0; have b4 := y.cell 4; have b5 := y.cell 5; simp only [gE0, gE1] at b0 b4 b5; clear y); go_simp; try (with_reducible rfl))
     go_simp
     refine wpT (i := 28) (v := ?vnt28) ?hnt28 hSw ?knt28
     case hnt28 => (intro w hSw; (obtain ⟨y, _, _, _⟩ := HK8.out _ hSw; have b0 := y.cell 0; have b4 := y.cell 4; have b5 := y.cell 5; simp only [gE0, gE1] at b0 b4 b5; clear y); go_simp; try (with_reducible rfl))
     go_simp
     refine wpT (i := 29) (v := ?vnt29) ?hnt29 hSw ?knt29
     case hnt29 => (intro w hSw; (obtain ⟨y, _, _, _⟩ := HK8.out _ hSw; have b0 := y.cell 0; have b4 := y.cell 4; have b5 := y.cell 5; simp only [gE0, gE1] at b0 b4 b5; clear y); go_simp; try (with_reducible rfl))
     go_simp
     refine wpT (i := 30) (v := ?vnt30) ?hnt30 hSw ?knt30
     case hnt30 => (intro w hSw; (obtain ⟨y, _, _, _⟩ := HK8.out _ hSw; have b0 := y.cell 0; have b4 := y.cell 4; have b5 := y.cell 5; simp only [gE0, gE1] at b0 b4 b5; clear y); go_simp; try (with_reducible rfl))
     go_simp
     refine wpAnyH_ready (rs := [31]) (by kernel_rfl) (by simp) ?_
     refine AllReadyH.cons rfl (fun K hK => ?_) AllReadyH.nil
     go_simp
     with_reducible refine (HAW.out _ hSw).mono ?_
     rintro e w12 ⟨rfl, hb12⟩
     go_simp
     refine hK.out _ _ (later_ hSw hb12) (fun hSn => ?_)
     clear hK K hSw
     have hSw := hSn
     clear hSn
     go_simp
     refine wpT (i := 32) (v := ?vnt32) ?hnt32 hSw ?knt32
     case hnt32 => (intro w hSw; (obtain ⟨y, _, _, _⟩ := HK8.out _ hSw; have b0 := y.cell 0; have b4 := y.cell 4; have b5 := y.cell 5; simp only [gE0, gE1] at b0 b4 b5; clear y); go_simp; try (with_reducible rfl))
     go_simp
     refine wpT (i := 33) (v := ?vnt33) ?hnt33 hSw ?knt33
     case hnt33 => (intro w hSw; (obtain ⟨y, _, _, _⟩ := HK8.out _ hSw; have b0 := y.cell 0; have b4 := y.cell 4; have b5 := y.cell 5; simp only [gE0, gE1] at b0 b4 b5; clear y); go_simp; try (with_reducible rfl))
     go_simp
     refine wpAnyH_done (by kernel_rfl) ?_ _
     have hb812 : Below w8.heap.size w8 w12 := later_ (later_ (later_ (later_ (below_drew (Below.refl _ _)) hb9) hb10) hb11) hb12
     have HZ := Lib.hid (HK8.out w12 hb812).2.2.2.bel
     clear hSw hb9 hb10 hb11 hb12 hb812 hi9 HEQ
     go_wp2
     go_ret
     exact ⟨rfl, HZ.out⟩
end Go.Proofs.YtdkjoigpahafmaaGreatDoor
