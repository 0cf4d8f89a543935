/-
 The walk of NodeJoins.
-/
import Derived.Test.YtdkjoigpahafmaaGreatDoorBunAA
import Derived.Test.YtdkjoigpahafmaaGreatDoorBunAR
set_option linter.unusedSimpArgs false
set_option linter.unusedVariables false
namespace Go.Proofs.YtdkjoigpahafmaaGreatDoor
open Go Go.RowKit Go.Lib Go.Shelf
variable {w w0 w1 w2 : World} {X X1 X2 : Dw} {S S1 S2 : Sd} {Y Y1 Y2 : Yw} {V V1 V2 : Sv} {Xa Xb : Dw} {Sa Sb : Sd} {Ya Yb : Yw} {Va Vb : Sv} {na nb : Nat}
namespace Nj
def pick (l : List It) (i : Nat) : It := l.getD i ⟨0, 0, 0, 0, 0⟩
def la (l : List It) (k : Nat) : List It := (List.range k).map (pick l)
def lb (l : List It) (t N k : Nat) : List It := (List.range k).map fun i => pick l ((i + t) % N)
theorem la_succ (l : List It) (k : Nat) : okJoins [] (la l (k + 1)) = if (pick l k).ok = true then add (okJoins [] (la l k)) (pick l k) else okJoins [] (la l k) := by
 unfold okJoins la
 rw [List.range_succ, List.map_append, List.foldl_append]
 rfl
theorem lb_succ (l : List It) (t N k : Nat) : okJoins [] (lb l t N (k + 1)) = if (pick l ((k + t) % N)).ok = true then add (okJoins [] (lb l t N k)) (pick l ((k + t) % N)) else okJoins [] (lb l t N k) := by
 unfold okJoins lb
 rw [List.range_succ, List.map_append, List.foldl_append]
 rfl
theorem same (l : List It) (t N : Nat) : okJoins [] (lb l t N N) = okJoins [] (la l N) := by
 rw [okJoins_eq, okJoins_eq]
 refine (joins_stt _ Stt.nil).1.eq_of (joins_stt _ Stt.nil).1 fun y => ?_
 rw [(joins_stt _ Stt.nil).2, (joins_stt _ Stt.nil).2]
 refine Eqv.of_mem (fun y _ => ?_) y
 simp only [List.append_nil]
 unfold la lb
 rw [List.mem_map, List.mem_map]
 constructor
 ·rintro ⟨i, hi, rfl⟩
  rw [List.mem_range] at hi
  exact ⟨(i + t) % N, List.mem_range.2 (Nat.mod_lt _ (by omega)), rfl⟩
 ·rintro ⟨i, hi, rfl⟩
  rw [List.mem_range] at hi
  refine ⟨(i + (N - t % N)) % N, List.mem_range.2 (Nat.mod_lt _ (by omega)), ?_⟩
  have h1 : t % N < N := Nat.mod_lt _ (by omega)
  have h2 : ((i + (N - t % N)) % N + t) % N = i := by
   rw [Nat.mod_add_mod, ← Nat.add_mod_mod, show i + (N - t % N) + t % N = i + N by omega, Nat.add_mod_right, Nat.mod_eq_of_lt hi]
  rw [h2]
end Nj
theorem two_put (h : Two w0 w Xa Sa Ya Va na Xb Sb Yb Vb nb) {c : Nat} (ns : Nd.NS 4194304 Sa Va c 100) (hc : c + 2000 ≤ 70000) (hm : Va.M.v.floor = 0) (hlen : Va.st.length ≤ 1400) {x : It} (hx : x.ok = true) (hfit : x.fit) (A : Option Addr) (cc : Nat) (hcc : 1 ≤ cc) (hr : Row w.heap.size w A 1 5 (itc [x])) (hA : ∀ a, A = some a → a.block ∉ XY Xa Ya) (mi : Nat) (hmi : mi ≤ 1000) (ht : Vb.tabs = []) (hv : Vb.M.v.files = []) :
  Calls Tryz.prog 16 #[.pointer (some ⟨na, 0, none⟩), .agg #[.int .i64 1, .int .i64 1, .int .i64 0, .int .u64 (mi : Int), .int .u64 0, .slice A 1 cc]] w fun e w' => ∃ g X1 S1 Y1 V1, e = .returned (.slice (some ⟨g, 0, none⟩) 1 1) ∧ w'.cell? ⟨g, 0, none⟩ = some (.int .i64 2) ∧ Two w0 w' X1 S1 Y1 V1 na Xb Sb Yb Vb nb ∧ Nd.NS 4194304 S1 V1 (c + 54) 100 ∧ V1.st = joins Va.st [x] ∧ V1.M = Va.M ∧ Chg (XY Xa Ya) w w' ∧ ∀ g ∈ XY X1 Y1, g ∈ XY Xa Ya ∨ w.heap.size ≤ g := by
 have hall : [x].all It.ok = true := by simp [hx]
 have hjl := joins_len [x] Va.st
 have hx1 : 1 ≤ x.v := by
  have := hx
  simp only [It.ok, Bool.and_eq_true, decide_eq_true_eq] at this
  omega
 obtain ⟨S4, V4, hput, hns4, hst4, hm4⟩ := ns.put (by omega) hc hall (by simp) (by simp at hjl; omega) (fun y hy => by
  rw [List.mem_singleton.1 hy, hm]
  omega)
 have hpt := hput_any h.a.at_ (ns.nrm (by omega) (by omega) (by omega)) 1 mi 0 A 1 cc [x] ⟨by simp, by simp, by simp, by simp only; omega, by simp, by simp, hall, .inr (.inl rfl)⟩ hr hcc (by omega) hA (fun y hy => by rw [List.mem_singleton.1 hy]; exact hfit)
 rw [hput] at hpt
 refine hpt.mono ?_
 rintro e w' ⟨X1, Y1, e1, es1, h1, c1, f1, n1, g, B, n, c2, rfl, ha, hg, _⟩
 have a0 := ha.cell 0
 simp only [gE0] at a0
 exact ⟨g, X1, S4, Y1, V4, rfl, a0, h.step h1 c1 f1 n1 ht hv, hns4, hst4, hm4, c1, f1⟩
structure NjI (w0 w : World) (na nb : Nat) (l : List It) (t N ka kb kj : Nat) (A : Option Addr) (q : Nat) (Xa : Dw) (Sa : Sd) (Ya : Yw) (Va : Sv) (Xb : Dw) (Sb : Sd) (Yb : Yw) (Vb : Sv) : Prop where
 two : Two w0 w Xa Sa Ya Va na Xb Sb Yb Vb nb
 nsa : Nd.NS 4194304 Sa Va (108 * ka) 100
 nsb : Nd.NS 4194304 Sb Vb (108 * kb) 100
 ma : Va.M = Nd.v0.M
 mb : Vb.M = Nd.v0.M
 sa : Va.st = okJoins [] (Nj.la l ka)
 sb : Vb.st = okJoins [] (Nj.lb l t N kb)
 row : Row w.heap.size w A q 5 (itc (okJoins [] (Nj.la l kj)))
 out : ∀ a, A = some a → a.block ∉ XY Xa Ya ∧ a.block ∉ XY Xb Yb ∧ a.block < w.heap.size
variable {l : List It} {t N ka kb kj q : Nat} {A : Option Addr}
theorem okj_len (L : List It) : (okJoins [] L).length ≤ L.length := by
 have := joins_len L []
 rw [okJoins_eq]
 simpa using this
theorem NjI.below (h : NjI w0 w na nb l t N ka kb kj A q Xa Sa Ya Va Xb Sb Yb Vb) (hb : Below w.heap.size w w1) : NjI w0 w1 na nb l t N ka kb kj A q Xa Sa Ya Va Xb Sb Yb Vb := ⟨h.two.below hb, h.nsa, h.nsb, h.ma, h.mb, h.sa, h.sb, (h.row.below hb).up hb.size, fun a ha => ⟨(h.out a ha).1, (h.out a ha).2.1, Nat.lt_of_lt_of_le (h.out a ha).2.2 hb.size⟩⟩
theorem NjI.lens (h : NjI w0 w na nb l t N ka kb kj A q Xa Sa Ya Va Xb Sb Yb Vb) : Va.st.length ≤ ka ∧ Vb.st.length ≤ kb ∧ q ≤ kj := by
 have h1 := okj_len (Nj.la l ka)
 have h2 := okj_len (Nj.lb l t N kb)
 have h3 := okj_len (Nj.la l kj)
 have h4 := h.row.itlen
 rw [h.sa, h.sb]
 rw [show (Nj.la l ka).length = ka by simp [Nj.la]] at h1
 rw [show (Nj.lb l t N kb).length = kb by simp [Nj.lb]] at h2
 rw [show (Nj.la l kj).length = kj by simp [Nj.la]] at h3
 omega
theorem NjI.puta (h : NjI w0 w na nb l t N ka kb kj A q Xa Sa Ya Va Xb Sb Yb Vb) (hx : (Nj.pick l ka).ok = true) {c : Nat} (h2 : Two w0 w1 X1 S1 Y1 V1 na Xb Sb Yb Vb nb) (ns : Nd.NS 4194304 S1 V1 c 100) (hc : c ≤ 108 * ka + 108) (hst : V1.st = joins Va.st [Nj.pick l ka]) (hm : V1.M = Va.M) (cc : Chg (XY Xa Ya) w w1) (f : ∀ g ∈ XY X1 Y1, g ∈ XY Xa Ya ∨ w.heap.size ≤ g) : NjI w0 w1 na nb l t N (ka + 1) kb kj A q X1 S1 Y1 V1 Xb Sb Yb Vb :=
 ⟨h2, ns.mono (by omega) (Nat.le_refl _), h.nsb, hm.trans h.ma, h.mb, by rw [hst, h.sa, Nj.la_succ, if_pos hx]; rfl, h.sb, (row_chg cc h.row (Nat.le_refl _) fun j _ a ha => (h.out a ha).1).up cc.size, fun a ha => by
  obtain ⟨z1, z2, z3⟩ := h.out a ha
  refine ⟨fun hm => ?_, z2, Nat.lt_of_lt_of_le z3 cc.size⟩
  rcases f _ hm with z | z
  ·exact z1 z
  ·omega⟩
theorem NjI.putb (h : NjI w0 w na nb l t N ka kb kj A q Xa Sa Ya Va Xb Sb Yb Vb) (hx : (Nj.pick l ((kb + t) % N)).ok = true) {c : Nat} (h2 : Two w0 w1 Xa Sa Ya Va na X1 S1 Y1 V1 nb) (ns : Nd.NS 4194304 S1 V1 c 100) (hc : c ≤ 108 * kb + 108) (hst : V1.st = joins Vb.st [Nj.pick l ((kb + t) % N)]) (hm : V1.M = Vb.M) (cc : Chg (XY Xb Yb) w w1) (f : ∀ g ∈ XY X1 Y1, g ∈ XY Xb Yb ∨ w.heap.size ≤ g) : NjI w0 w1 na nb l t N ka (kb + 1) kj A q Xa Sa Ya Va X1 S1 Y1 V1 :=
 ⟨h2, h.nsa, ns.mono (by omega) (Nat.le_refl _), h.ma, hm.trans h.mb, h.sa, by rw [hst, h.sb, Nj.lb_succ, if_pos hx]; rfl, (row_chg cc h.row (Nat.le_refl _) fun j _ a ha => (h.out a ha).2.1).up cc.size, fun a ha => by
  obtain ⟨z1, z2, z3⟩ := h.out a ha
  refine ⟨z1, fun hm => ?_, Nat.lt_of_lt_of_le z3 cc.size⟩
  rcases f _ hm with z | z
  ·exact z2 z
  ·omega⟩
theorem NjI.skipa (h : NjI w0 w na nb l t N ka kb kj A q Xa Sa Ya Va Xb Sb Yb Vb) (hx : (Nj.pick l ka).ok = false) : NjI w0 w na nb l t N (ka + 1) kb kj A q Xa Sa Ya Va Xb Sb Yb Vb := ⟨h.two, h.nsa.mono (by omega) (Nat.le_refl _), h.nsb, h.ma, h.mb, by rw [Nj.la_succ, hx, if_neg (by simp)]; exact h.sa, h.sb, h.row, h.out⟩
theorem NjI.skipb (h : NjI w0 w na nb l t N ka kb kj A q Xa Sa Ya Va Xb Sb Yb Vb) (hx : (Nj.pick l ((kb + t) % N)).ok = false) : NjI w0 w na nb l t N ka (kb + 1) kj A q Xa Sa Ya Va Xb Sb Yb Vb := ⟨h.two, h.nsa, h.nsb.mono (by omega) (Nat.le_refl _), h.ma, h.mb, h.sa, by rw [Nj.lb_succ, hx, if_neg (by simp)]; exact h.sb, h.row, h.out⟩
theorem NjI.skipj (h : NjI w0 w na nb l t N ka kb kj A q Xa Sa Ya Va Xb Sb Yb Vb) (hx : (Nj.pick l kj).ok = false) : NjI w0 w na nb l t N ka kb (kj + 1) A q Xa Sa Ya Va Xb Sb Yb Vb := ⟨h.two, h.nsa, h.nsb, h.ma, h.mb, h.sa, h.sb, by rw [Nj.la_succ, hx, if_neg (by simp)]; exact h.row, h.out⟩
theorem NjI.join {A2 : Option Addr} {q2 c2 : Nat} (h : NjI w0 w na nb l t N ka kb kj A q Xa Sa Ya Va Xb Sb Yb Vb) (hx : (Nj.pick l kj).ok = true) (hp : RaddPost w A (joins (okJoins [] (Nj.la l kj)) [Nj.pick l kj]) (.returned (.slice A2 q2 c2)) w1) : NjI w0 w1 na nb l t N ka kb (kj + 1) A2 q2 Xa Sa Ya Va Xb Sb Yb Vb := by
 obtain ⟨A', k', c', e, h1, h2, h3, hb⟩ := hp
 injection e with e
 injection e with e1 e2 e3
 subst e1 e2 e3
 refine ⟨h.two.below hb, h.nsa, h.nsb, h.ma, h.mb, h.sa, h.sb, by rw [Nj.la_succ, if_pos hx]; exact h2, fun a ha => ?_⟩
 rcases h3 with rfl | h3
 ·obtain ⟨z1, z2, z3⟩ := h.out a ha
  exact ⟨z1, z2, Nat.lt_of_lt_of_le z3 hb.size⟩
 ·obtain ⟨z1, z2⟩ := h3 a ha
  exact ⟨fun hm => by have := h.two.a.at_.at_.lt _ hm; omega, fun hm => by have := h.two.b.at_.at_.lt _ hm; omega, z2⟩
theorem two_born {q1 q2 : Int} (ha : NdW w0 w1 Xa Sa Ya Nd.v0 na 0 0 3) (hb : NdW w1 w2 Xb Sb Yb Nd.v0 nb 0 0 3) (hn : w1.heap.size ≤ nb) (h1 : Nd.NS 4194304 Sa Nd.v0 0 100) (h2 : Nd.NS 4194304 Sb Nd.v0 0 100) (l : List It) (t N : Nat) : NjI w0 w2 na nb l t N 0 0 0 none 0 Xa Sa Ya Nd.v0 Xb Sb Yb Nd.v0 := by
 have la := ha.at_.at_.lt
 have ln := ha.at_.box.lt
 refine ⟨⟨ha.below hb.bel, ⟨hb.at_, fun g hg => Nat.le_trans ha.bel.size (hb.low g hg), later_ ha.bel hb.bel⟩, fun g hg hm => ?_, fun hm => ?_, fun hm => ?_, fun j hj => absurd hj (by simp [Nd.v0, itc]), fun j hj => absurd hj (by simp [Nd.v0, itc])⟩, h1, h2, rfl, rfl, rfl, rfl, Row.nil_, fun a ha => by cases ha⟩
 ·have := la g hg
  have := hb.low g hm
  omega
 ·have := hb.low _ hm
  omega
 ·have := la _ hm
  omega
set_option maxRecDepth 100000 in
set_option maxHeartbeats 16000000 in
theorem nodeJoins_walk (A : Option Addr) (n c : Nat) (l : List It) (turn s : Int) (hnc : n ≤ c) (hcm : c ≤ maxLen) (hr : Row w.heap.size w A n 5 (itc l)) (hfit : ∀ x ∈ l, x.fit) (he : Env w) :
  Calls Tryz.prog 4 #[.slice A n c, .int .i64 turn, .int .i64 s] w fun e w' => e = .returned (.bool true) ∧ Below w.heap.size w w' := by
 obtain ⟨mt, hmt, hmt1⟩ := and_mask turn 8 (by omega)
 have hmt' : bits .and .i64 turn 255 = (mt : Int) := hmt
 obtain ⟨ms, hms, hms1⟩ := and_mask s 8 (by omega)
 have hms' : bits .and .i64 s 255 = (ms : Int) := hms
 clear hmt hms
 have hrl := hr.itlen
 have HDN := Lib.hid (dnew_any 4194304 w)
 have HE := Lib.hid he
 have HFIT := Lib.hid hfit
 have HCM := Lib.hid (show c ≤ 9223372036854775807 by have := hcm; unfold maxLen at this; omega)
 clear he hfit hcm
 go_enter Tryz.func4, Tryz.ntmps4
 go_wp2_with fail
 with_reducible refine HDN.out.mono ?_
 rintro e w1 ⟨X0, rfl, hdk, hb1, hfo⟩
 have hop := nborn_any (by omega) (by omega) HE.out hdk hb1 hfo 0 3 (by omega) (by omega)
 rw [show ((3 : Nat) : Int) = 3 from rfl] at hop
 have HOP := Lib.hid hop
 clear hop hdk hb1 hfo HDN
 go_wp2_with fail
 with_reducible refine HOP.out.mono ?_
 rintro e w2 ⟨na, Xa, Ya, Sa, rfl, hwa, hnsa⟩
 have HA := Lib.hid (And.intro hwa hnsa)
 have HDN := Lib.hid (dnew_any 4194304 w2)
 clear hwa hnsa HOP
 go_wp2_with fail
 with_reducible refine HDN.out.mono ?_
 rintro e w3 ⟨X3, rfl, hdk, hb3, hfo⟩
 have hop := nborn2_any (by omega) (by omega) (HE.out.below HA.out.1.bel) hdk hb3 hfo 0 3 (by omega) (by omega)
 rw [show ((3 : Nat) : Int) = 3 from rfl] at hop
 have HOP := Lib.hid hop
 clear hop hdk hb3 hfo HDN
 go_wp2_with fail
 with_reducible refine HOP.out.mono ?_
 rintro e w4 ⟨nb, Xb, Yb, Sb, rfl, hwb, hnsb, hnb⟩
 obtain ⟨N, hN⟩ : ∃ N, N = min n 25 := ⟨_, rfl⟩
 have hmin : min (n : Int) 25 = (N : Int) := by omega
 have hN1 : N ≤ n ∧ N ≤ 25 := by omega
 have HI0 := Lib.hid (two_born HA.out.1 hwb hnb HA.out.2 hnsb l mt N (q1 := 0) (q2 := 0))
 clear hwb hnsb hnb HOP HA hN
 go_wp2_with fail
 clear hmin
 go_loopw [12, 13] (fun v i wr => ∃ (k q : Nat) (A2 : Option Addr) (c2 : Nat), k ≤ N ∧ v = .slice A2 q c2 ∧ i = .int .i64 (k : Int) ∧ Hid (∃ Xa Sa Ya Va Xb Sb Yb Vb, NjI w wr na nb l mt N k k k A2 q Xa Sa Ya Va Xb Sb Yb Vb)) (fun _ i _ => N - (intOf i).toNat)
 case atStart => exact ⟨0, 0, none, 0, Nat.zero_le _, rfl, rfl, Lib.hid ⟨_, _, _, _, _, _, _, _, HI0.out⟩⟩
 case round =>
  clear HI0
  obtain ⟨k, q, A2, c2, hk, rfl, rfl, HI⟩ := hrel
  obtain ⟨Xa, Sa, Ya, Va, Xb, Sb, Yb, Vb, hI⟩ := HI.out
  have HI1 := Lib.hid hI
  clear HI hI
  by_cases hlt : k < N
  ·obtain ⟨u, hu⟩ : ∃ u, u = k + mt := ⟨_, rfl⟩
   have hku : (k : Int) + (mt : Int) = (u : Int) := by omega
   have hwu : IntKind.i64.wrap (u : Int) = (u : Int) := IntWalk.i64_in _ (by omega)
   obtain ⟨kk, hkk⟩ : ∃ kk, kk = u % N := ⟨_, rfl⟩
   have hkN : kk < N := by rw [hkk]; exact Nat.mod_lt _ (by omega)
   have hrem : (u : Int).tmod (N : Int) = (kk : Int) := by rw [hkk]; rfl
   have hwkk : IntKind.i64.wrap (kk : Int) = (kk : Int) := IntWalk.i64_in _ (by omega)
   have hN0 : ((N : Int) == 0) = false := by simp; omega
   have HKK : Hid (kk = (k + mt) % N) := Lib.hid (by rw [hkk, hu])
   clear hkk hu
   obtain ⟨p, hl, rfl, hbk, hd⟩ := hr.it (show k < n by omega)
   obtain ⟨p2, hl2, ep, _, hd2⟩ := hr.it (show kk < n by omega)
   injection ep with ep
   subst ep
   have HPX : Hid (Nj.pick l k = l[k]) := Lib.hid (by unfold Nj.pick; rw [List.getD_eq_getElem?_getD, List.getElem?_eq_getElem hl]; rfl)
   have HPY : Hid (Nj.pick l kk = l[kk]) := Lib.hid (by unfold Nj.pick; rw [List.getD_eq_getElem?_getD, List.getElem?_eq_getElem hl2]; rfl)
   have hrow1 := row_one hr hl
   have hfx := HFIT.out _ (List.getElem_mem hl)
   have hfy := HFIT.out _ (List.getElem_mem hl2)
   generalize l[k] = x at *
   generalize l[kk] = y at *
   have hkc : ∀ w', Below w.heap.size w w' → (w'.cell? (p.add (k * 5)) = some (.int .i64 x.s) ∧ w'.cell? ⟨(p.add (k * 5)).block, (p.add (k * 5)).off + 1, none⟩ = some (.int .i64 x.k) ∧ w'.cell? ⟨(p.add (k * 5)).block, (p.add (k * 5)).off + 2, none⟩ = some (.int .u64 (x.t : Int)) ∧ w'.cell? ⟨(p.add (k * 5)).block, (p.add (k * 5)).off + 3, none⟩ = some (.int .u64 (x.v : Int)) ∧ w'.cell? ⟨(p.add (k * 5)).block, (p.add (k * 5)).off + 4, none⟩ = some (.int .i64 x.x)) ∧ w'.cell? (p.add (kk * 5)) = some (.int .i64 y.s) ∧ w'.cell? ⟨(p.add (kk * 5)).block, (p.add (kk * 5)).off + 1, none⟩ = some (.int .i64 y.k) ∧ w'.cell? ⟨(p.add (kk * 5)).block, (p.add (kk * 5)).off + 2, none⟩ = some (.int .u64 (y.t : Int)) ∧ w'.cell? ⟨(p.add (kk * 5)).block, (p.add (kk * 5)).off + 3, none⟩ = some (.int .u64 (y.v : Int)) ∧ w'.cell? ⟨(p.add (kk * 5)).block, (p.add (kk * 5)).off + 4, none⟩ = some (.int .i64 y.x) := fun w' hb => by
    have h1 := hd.below (B := w.heap.size) (w' := w') hbk hb
    have h2 := hd2.below (B := w.heap.size) (w' := w') hbk hb
    exact ⟨⟨h1.c0, h1.c1, h1.c2, h1.c3, h1.c4⟩, h2.c0, h2.c1, h2.c2, h2.c3, h2.c4⟩
   have HROW1 := Lib.hid hrow1
   have KC := Lib.hid hkc
   have HFX := Lib.hid (And.intro hfx hfy)
   obtain ⟨m1, hm1⟩ : ∃ m1, m1 = k + 1 := ⟨_, rfl⟩
   have hk1 : (k : Int) + 1 = (m1 : Int) := by omega
   have hm2 : m1 ≤ 25 := by omega
   have HM1 := Lib.hid hm1
   have hkn : (k : Int) < (n : Int) := by omega
   have hkkn : (kk : Int) < (n : Int) := by omega
   have hwk : IntKind.i64.wrap (k : Int) = (k : Int) := IntWalk.i64_in _ (by omega)
   have hwuk : IntKind.u64.wrap (k : Int) = (k : Int) := IntWalk.u64_in _ (by omega)
   have hwm : IntKind.i64.wrap (m1 : Int) = (m1 : Int) := IntWalk.i64_in _ (by omega)
   have hwv : IntKind.u64.wrap (m1 : Int) = (m1 : Int) := IntWalk.u64_in _ (by omega)
   obtain ⟨r3, hr3⟩ : ∃ r3, r3 = k % 3 := ⟨_, rfl⟩
   have hrem3 : (k : Int).tmod 3 = (r3 : Int) := by rw [hr3]; rfl
   have hwr3 : IntKind.i64.wrap (r3 : Int) = (r3 : Int) := IntWalk.i64_in _ (by omega)
   clear hkc hfx hfy hd hd2 hbk hm1 hr3 hl hl2 hrow1
   go_wp2_with fail
   go_loopw [15] (fun j wr => ∃ jj : Nat, jj ≤ 2 ∧ j = .int .i64 (jj : Int) ∧ Hid (∃ Xa Sa Ya Va Xb Sb Yb Vb, NjI w wr na nb l mt N (if jj = 0 then k else k + 1) (if jj ≤ 1 then k else k + 1) k A2 q Xa Sa Ya Va Xb Sb Yb Vb)) (fun j _ => 2 - (intOf j).toNat)
   case atStart => exact ⟨0, by omega, rfl, Lib.hid ⟨_, _, _, _, _, _, _, _, HI1.out⟩⟩
   case round =>
    obtain ⟨jj, hjj, rfl, HJ⟩ := hrel
    obtain ⟨Xa, Sa, Ya, Va, Xb, Sb, Yb, Vb, hJ⟩ := HJ.out
    have HJ1 := Lib.hid hJ
    clear HJ hJ
    rcases (show jj = 0 ∨ jj = 1 ∨ jj = 2 by omega) with rfl | rfl | rfl
    -- ROUND0
    ·have hJ : NjI w wr na nb l mt N (k) (k) k A2 q Xa Sa Ya Va Xb Sb Yb Vb := by simpa using HJ1.out
     obtain ⟨⟨c0, c1, c2', c3, c4⟩, d0, d1, d2, d3, d4⟩ := KC.out wr hJ.two.a.bel
     have hbW : Below wr.heap.size wr ((wr.alloc (.cells #[.int .i64 x.s, .int .i64 x.k, .int .u64 (x.t : Int), .int .u64 (x.v : Int), .int .i64 x.x] 27)).alloc (.cells #[.int .i64 1, .int .i64 1, .int .i64 0, .int .u64 (m1 : Int), .int .u64 0, .slice (some ⟨wr.heap.size, 0, none⟩) 1 1] 47)) := ((Below.refl wr.heap.size wr).alloc (Nat.le_refl _) _).alloc (by simp) _
     have hrow := (irow_box (show BoxO (wr.alloc (.cells #[.int .i64 x.s, .int .i64 x.k, .int .u64 (x.t : Int), .int .u64 (x.v : Int), .int .i64 x.x] 27)) 27 wr.heap.size x.cells from BoxO.new wr #[.int .i64 x.s, .int .i64 x.k, .int .u64 (x.t : Int), .int .u64 (x.v : Int), .int .i64 x.x] 27))
     have hrow2 := (hrow.alloc (Nat.le_refl _) (.cells #[.int .i64 1, .int .i64 1, .int .i64 0, .int .u64 (m1 : Int), .int .u64 0, .slice (some ⟨wr.heap.size, 0, none⟩) 1 1] 47)).up (B' := ((wr.alloc (.cells #[.int .i64 x.s, .int .i64 x.k, .int .u64 (x.t : Int), .int .u64 (x.v : Int), .int .i64 x.x] 27)).alloc (.cells #[.int .i64 1, .int .i64 1, .int .i64 0, .int .u64 (m1 : Int), .int .u64 0, .slice (some ⟨wr.heap.size, 0, none⟩) 1 1] 47)).heap.size) (by simp)
     have hbox := BoxO.new (wr.alloc (.cells #[.int .i64 x.s, .int .i64 x.k, .int .u64 (x.t : Int), .int .u64 (x.v : Int), .int .i64 x.x] 27)) #[.int .i64 1, .int .i64 1, .int .i64 0, .int .u64 (m1 : Int), .int .u64 0, .slice (some ⟨wr.heap.size, 0, none⟩) 1 1] 47
     rw [World.size_alloc] at hbox
     obtain ⟨W2, hW2⟩ : ∃ W2, W2 = (wr.alloc (.cells #[.int .i64 x.s, .int .i64 x.k, .int .u64 (x.t : Int), .int .u64 (x.v : Int), .int .i64 x.x] 27)).alloc (.cells #[.int .i64 1, .int .i64 1, .int .i64 0, .int .u64 (m1 : Int), .int .u64 0, .slice (some ⟨wr.heap.size, 0, none⟩) 1 1] 47) := ⟨_, rfl⟩
     rw [← hW2] at hbW hrow2 hbox
     rw [show x.cells = itc [x] by simp [itc]] at hrow2
     have hcell0 := (KC.out W2 (later_ hJ.two.a.bel hbW))
     have hmo := rmsgok_put m1 (some ⟨wr.heap.size, 0, none⟩) 1 x W2 (by omega) hrow2
     have HMO := Lib.hid hmo
     have HW2 := Lib.hid hW2
     have HBW := Lib.hid hbW
     have HROW2 := Lib.hid hrow2
     have HBOX := Lib.hid hbox
     have HJJ := Lib.hid hJ
     have HPK0 : Hid (Nj.pick l k = x) := Lib.hid HPX.out
     clear hmo hbW hrow2 hbox hJ hrow hcell0
     go_wp2_with fail
     rw [← hW2]
     clear hW2
     with_reducible refine HMO.out.mono ?_
     rintro e w3 ⟨rfl, hb3⟩
     have HB3 := Lib.hid (later_ HBW.out hb3)
     have hbx3 := HBOX.out.below hb3
     have hrw3 := (HROW2.out.below hb3).up hb3.size
     clear c0 c1 c2' c3 c4 d0 d1 d2 d3 d4 hb3 HMO HBOX HROW2
     cases hx : x.ok with
     | false =>
      have HZ : Hid (NjI w w3 na nb l mt N (k + 1) (k) k A2 q Xa Sa Ya Va Xb Sb Yb Vb) := Lib.hid ((HJJ.out.below HB3.out).skipa (by rw [HPK0.out]; exact hx))
      clear hx hbx3 hrw3
      go_wp2
      go_roundw
      case rel => exact ⟨1, by omega, rfl, Lib.hid ⟨_, _, _, _, _, _, _, _, by simpa using HZ.out⟩⟩
      case measure => simp [intOf]
     | true =>
      have hb4 := (Below.refl w3.heap.size w3).alloc (Nat.le_refl _) (.cells #[.pointer (some ⟨na, 0, none⟩), .pointer (some ⟨nb, 0, none⟩)] 42)
      have hJ4 := (HJJ.out.below HB3.out).below hb4
      have hbx4 := hbx3.below hb4
      have hrw4 := (hrw3.below hb4).up hb4.size
      have hlx := HJJ.out.two.a.at_.at_.lt
      have hly := HJJ.out.two.b.at_.at_.lt
      obtain ⟨W4, hW4⟩ : ∃ W4, W4 = w3.alloc (.cells #[.pointer (some ⟨na, 0, none⟩), .pointer (some ⟨nb, 0, none⟩)] 42) := ⟨_, rfl⟩
      rw [← hW4] at hb4 hJ4 hbx4 hrw4
      have hpk : Nj.pick l k = x := HPK0.out
      have hgx : ∀ g, wr.heap.size ≤ g → g ∉ XY Xa Ya := fun g hg hm => by have := hlx g hm; omega
      have hlen := hJ4.lens
      have htp := two_put hJ4.two hJ4.nsa (by omega) (by rw [hJ4.ma]; rfl) (by omega) hx HFX.out.1 (some ⟨wr.heap.size, 0, none⟩) 1 (Nat.le_refl _) hrw4 (fun a ha => by injection ha with ha; subst ha; exact hgx _ (show wr.heap.size ≤ wr.heap.size by omega)) m1 (by omega) hJ4.nsb.tabs hJ4.nsb.files
      have y0 := hbx4.cell 0
      have y1 := hbx4.cell 1
      have y2 := hbx4.cell 2
      have y3 := hbx4.cell 3
      have y4 := hbx4.cell 4
      have y5 := hbx4.cell 5
      simp only [gE0, gE1] at y0 y1 y2 y3 y4 y5
      rw [hW4] at y0 y1 y2 y3 y4 y5
      have HTP := Lib.hid htp
      have HW4 := Lib.hid hW4
      have HJ4 := Lib.hid hJ4
      have HBX4 := Lib.hid hbx4
      have HRW4 := Lib.hid hrw4
      have HGX := Lib.hid hgx
      have HPK := Lib.hid hpk
      have HX := Lib.hid hx
      have HLEN := Lib.hid hlen
      clear htp hJ4 hbx4 hrw4 hgx hpk hx hlen hlx hly hb4 hbx3 hrw3
      go_wp2_with fail
      rw [← hW4]
      clear hW4 y0 y1 y2 y3 y4 y5
      with_reducible refine HTP.out.mono ?_
      rintro e w5 ⟨g5, X5, S5, Y5, V5, rfl, a5, h5, n5, st5, m5, c5, f5⟩
      have hbx5 := HBX4.out.chg c5 (HGX.out _ (by omega))
      have hrw5 := (row_chg c5 HRW4.out (Nat.le_refl _) fun j _ a ha => by injection ha with ha; subst ha; exact HGX.out _ (show wr.heap.size ≤ wr.heap.size by omega)).up c5.size
      by_cases h0 : r3 = 0
      ·have e0 : ((r3 : Int) == 0) = true := by simp [h0]
       have hgx5 : ∀ g, wr.heap.size ≤ g → g < W4.heap.size → g ∉ XY X5 Y5 := fun g h1 h2 hm => by
        rcases f5 g hm with z | z
        ·exact HGX.out g h1 z
        ·omega
       have hsl := HBX4.out.lt
       have hslr : wr.heap.size < W4.heap.size := by
        obtain ⟨a, ea, hlt2, _⟩ := HRW4.out.cell 0 (by simp [itc, It.cells])
        injection ea with ea
        subst ea
        exact hlt2
       have hl5 : V5.st.length ≤ 1400 := by
        have := joins_len [x] Va.st
        rw [← st5] at this
        simp at this
        have := HLEN.out
        omega
       have htp := two_put h5 n5 (by omega) (by rw [m5, HJ4.out.ma]; rfl) hl5 HX.out HFX.out.1 (some ⟨wr.heap.size, 0, none⟩) 1 (Nat.le_refl _) hrw5 (fun a ha => by injection ha with ha; subst ha; exact hgx5 _ (show wr.heap.size ≤ wr.heap.size by omega) hslr) m1 (by omega) HJ4.out.nsb.tabs HJ4.out.nsb.files
       have y0 := hbx5.cell 0
       have y1 := hbx5.cell 1
       have y2 := hbx5.cell 2
       have y3 := hbx5.cell 3
       have y4 := hbx5.cell 4
       have y5 := hbx5.cell 5
       simp only [gE0, gE1] at y0 y1 y2 y3 y4 y5
       have HTP := Lib.hid htp
       have H5 := Lib.hid (And.intro st5 (And.intro m5 (And.intro c5 f5)))
       have HSTT : Hid (Stt Va.st) := Lib.hid HJ4.out.nsa.st
       have HH0 := Lib.hid h0
       clear htp st5 m5 c5 f5 h5 n5 hbx5 hrw5 hgx5 hsl hslr hl5 h0
       go_wp2_with fail
       with_reducible refine HTP.out.mono ?_
       rintro e w6 ⟨g6, X6, S6, Y6, V6, rfl, a6, h6, n6, st6, m6, c6, f6⟩
       obtain ⟨st5, m5, c5, f5⟩ := H5.out
       have hz := HJ4.out.puta (by rw [HPK.out]; exact HX.out) h6 n6 (by omega) (by rw [HPK.out, st6, st5]; exact joins_twice HSTT.out) (m6.trans m5) (c5.trans c6 f5) (fun g hg => by
        rcases f6 g hg with z | z
        ·exact f5 g z
        ·exact .inr (Nat.le_trans c5.size z))
       have HZ := Lib.hid hz
       clear hz st5 m5 c5 f5 h6 n6 st6 m6 c6 f6 HTP a5 a6 y0 y1 y2 y3 y4 y5
       go_wp2
       go_roundw
       case rel => exact ⟨1, by omega, rfl, Lib.hid ⟨_, _, _, _, _, _, _, _, by simpa using HZ.out⟩⟩
       case measure => simp [intOf]
      ·have e0 : ((r3 : Int) == 0) = false := by simp; omega
       have hz := HJ4.out.puta (by rw [HPK.out]; exact HX.out) h5 n5 (by omega) (by rw [HPK.out, st5]) m5 c5 f5
       have HZ := Lib.hid hz
       clear hz st5 m5 c5 f5 h5 n5 hbx5 hrw5 h0
       go_wp2
       go_roundw
       case rel => exact ⟨1, by omega, rfl, Lib.hid ⟨_, _, _, _, _, _, _, _, by simpa using HZ.out⟩⟩
       case measure => simp [intOf]
    -- ROUND1
    ·have hJ : NjI w wr na nb l mt N (k + 1) (k) k A2 q Xa Sa Ya Va Xb Sb Yb Vb := by simpa using HJ1.out
     obtain ⟨⟨c0, c1, c2', c3, c4⟩, d0, d1, d2, d3, d4⟩ := KC.out wr hJ.two.a.bel
     obtain ⟨_, e0, e1', e2', e3', e4'⟩ := KC.out ((wr.alloc (.cells #[.int .i64 x.s, .int .i64 x.k, .int .u64 (x.t : Int), .int .u64 (x.v : Int), .int .i64 x.x] 27)).alloc (.cells #[.int .i64 1, .int .i64 1, .int .i64 0, .int .u64 (m1 : Int), .int .u64 0, .slice (some ⟨wr.heap.size, 0, none⟩) 1 1] 47)) (later_ hJ.two.a.bel (((Below.refl wr.heap.size wr).alloc (Nat.le_refl _) _).alloc (by simp) _))
     have hbW : Below wr.heap.size wr (((wr.alloc (.cells #[.int .i64 x.s, .int .i64 x.k, .int .u64 (x.t : Int), .int .u64 (x.v : Int), .int .i64 x.x] 27)).alloc (.cells #[.int .i64 1, .int .i64 1, .int .i64 0, .int .u64 (m1 : Int), .int .u64 0, .slice (some ⟨wr.heap.size + 1 + 1, 0, none⟩) 1 1] 47)).alloc (.cells #[.int .i64 y.s, .int .i64 y.k, .int .u64 (y.t : Int), .int .u64 (y.v : Int), .int .i64 y.x] 27)) := (((Below.refl wr.heap.size wr).alloc (Nat.le_refl _) _).alloc (by simp) _).alloc (by simp; omega) _
     have hrow2 : Row (((wr.alloc (.cells #[.int .i64 x.s, .int .i64 x.k, .int .u64 (x.t : Int), .int .u64 (x.v : Int), .int .i64 x.x] 27)).alloc (.cells #[.int .i64 1, .int .i64 1, .int .i64 0, .int .u64 (m1 : Int), .int .u64 0, .slice (some ⟨wr.heap.size + 1 + 1, 0, none⟩) 1 1] 47)).alloc (.cells #[.int .i64 y.s, .int .i64 y.k, .int .u64 (y.t : Int), .int .u64 (y.v : Int), .int .i64 y.x] 27)).heap.size (((wr.alloc (.cells #[.int .i64 x.s, .int .i64 x.k, .int .u64 (x.t : Int), .int .u64 (x.v : Int), .int .i64 x.x] 27)).alloc (.cells #[.int .i64 1, .int .i64 1, .int .i64 0, .int .u64 (m1 : Int), .int .u64 0, .slice (some ⟨wr.heap.size + 1 + 1, 0, none⟩) 1 1] 47)).alloc (.cells #[.int .i64 y.s, .int .i64 y.k, .int .u64 (y.t : Int), .int .u64 (y.v : Int), .int .i64 y.x] 27)) (some ⟨wr.heap.size + 1 + 1, 0, none⟩) 1 5 y.cells := by
      have h := (irow_box (show BoxO (((wr.alloc (.cells #[.int .i64 x.s, .int .i64 x.k, .int .u64 (x.t : Int), .int .u64 (x.v : Int), .int .i64 x.x] 27)).alloc (.cells #[.int .i64 1, .int .i64 1, .int .i64 0, .int .u64 (m1 : Int), .int .u64 0, .slice (some ⟨wr.heap.size + 1 + 1, 0, none⟩) 1 1] 47)).alloc (.cells #[.int .i64 y.s, .int .i64 y.k, .int .u64 (y.t : Int), .int .u64 (y.v : Int), .int .i64 y.x] 27)) 27 ((wr.alloc (.cells #[.int .i64 x.s, .int .i64 x.k, .int .u64 (x.t : Int), .int .u64 (x.v : Int), .int .i64 x.x] 27)).alloc (.cells #[.int .i64 1, .int .i64 1, .int .i64 0, .int .u64 (m1 : Int), .int .u64 0, .slice (some ⟨wr.heap.size + 1 + 1, 0, none⟩) 1 1] 47)).heap.size y.cells from BoxO.new ((wr.alloc (.cells #[.int .i64 x.s, .int .i64 x.k, .int .u64 (x.t : Int), .int .u64 (x.v : Int), .int .i64 x.x] 27)).alloc (.cells #[.int .i64 1, .int .i64 1, .int .i64 0, .int .u64 (m1 : Int), .int .u64 0, .slice (some ⟨wr.heap.size + 1 + 1, 0, none⟩) 1 1] 47)) #[.int .i64 y.s, .int .i64 y.k, .int .u64 (y.t : Int), .int .u64 (y.v : Int), .int .i64 y.x] 27))
      simp only [World.size_alloc] at h ⊢
      exact h
     have hbox := (BoxO.new (wr.alloc (.cells #[.int .i64 x.s, .int .i64 x.k, .int .u64 (x.t : Int), .int .u64 (x.v : Int), .int .i64 x.x] 27)) #[.int .i64 1, .int .i64 1, .int .i64 0, .int .u64 (m1 : Int), .int .u64 0, .slice (some ⟨wr.heap.size + 1 + 1, 0, none⟩) 1 1] 47).alloc (.cells #[.int .i64 y.s, .int .i64 y.k, .int .u64 (y.t : Int), .int .u64 (y.v : Int), .int .i64 y.x] 27)
     rw [World.size_alloc] at hbox
     obtain ⟨W2, hW2⟩ : ∃ W2, W2 = ((wr.alloc (.cells #[.int .i64 x.s, .int .i64 x.k, .int .u64 (x.t : Int), .int .u64 (x.v : Int), .int .i64 x.x] 27)).alloc (.cells #[.int .i64 1, .int .i64 1, .int .i64 0, .int .u64 (m1 : Int), .int .u64 0, .slice (some ⟨wr.heap.size + 1 + 1, 0, none⟩) 1 1] 47)).alloc (.cells #[.int .i64 y.s, .int .i64 y.k, .int .u64 (y.t : Int), .int .u64 (y.v : Int), .int .i64 y.x] 27) := ⟨_, rfl⟩
     rw [← hW2] at hbW hrow2 hbox
     rw [show y.cells = itc [y] by simp [itc]] at hrow2
     have hcell1 := (KC.out W2 (later_ hJ.two.a.bel hbW))
     have hmo := rmsgok_put m1 (some ⟨wr.heap.size + 1 + 1, 0, none⟩) 1 y W2 (by omega) hrow2
     have HMO := Lib.hid hmo
     have HW2 := Lib.hid hW2
     have HBW := Lib.hid hbW
     have HROW2 := Lib.hid hrow2
     have HBOX := Lib.hid hbox
     have HJJ := Lib.hid hJ
     have HPK0 : Hid (Nj.pick l ((k + mt) % N) = y) := Lib.hid (by rw [← HKK.out]; exact HPY.out)
     clear hmo hbW hrow2 hbox hJ hcell1
     go_wp2_with fail
     
     rw [← hW2]
     clear hW2
     with_reducible refine HMO.out.mono ?_
     rintro e w3 ⟨rfl, hb3⟩
     have HB3 := Lib.hid (later_ HBW.out hb3)
     have hbx3 := HBOX.out.below hb3
     have hrw3 := (HROW2.out.below hb3).up hb3.size
     clear c0 c1 c2' c3 c4 d0 d1 d2 d3 d4 hb3 HMO HBOX HROW2
     cases hx : y.ok with
     | false =>
      have HZ : Hid (NjI w w3 na nb l mt N (k + 1) (k + 1) k A2 q Xa Sa Ya Va Xb Sb Yb Vb) := Lib.hid ((HJJ.out.below HB3.out).skipb (by rw [HPK0.out]; exact hx))
      clear hx hbx3 hrw3
      go_wp2
      go_roundw
      case rel => exact ⟨2, by omega, rfl, Lib.hid ⟨_, _, _, _, _, _, _, _, by simpa using HZ.out⟩⟩
      case measure => simp [intOf]
     | true =>
      have hb4 := (Below.refl w3.heap.size w3).alloc (Nat.le_refl _) (.cells #[.pointer (some ⟨na, 0, none⟩), .pointer (some ⟨nb, 0, none⟩)] 42)
      have hJ4 := (HJJ.out.below HB3.out).below hb4
      have hbx4 := hbx3.below hb4
      have hrw4 := (hrw3.below hb4).up hb4.size
      have hlx := HJJ.out.two.a.at_.at_.lt
      have hly := HJJ.out.two.b.at_.at_.lt
      obtain ⟨W4, hW4⟩ : ∃ W4, W4 = w3.alloc (.cells #[.pointer (some ⟨na, 0, none⟩), .pointer (some ⟨nb, 0, none⟩)] 42) := ⟨_, rfl⟩
      rw [← hW4] at hb4 hJ4 hbx4 hrw4
      have hpk : Nj.pick l ((k + mt) % N) = y := HPK0.out
      have hgx : ∀ g, wr.heap.size ≤ g → g ∉ XY Xb Yb := fun g hg hm => by have := hly g hm; omega
      have hlen := hJ4.lens
      have htp := two_put hJ4.two.swap hJ4.nsb (by omega) (by rw [hJ4.mb]; rfl) (by omega) hx HFX.out.2 (some ⟨wr.heap.size + 1 + 1, 0, none⟩) 1 (Nat.le_refl _) hrw4 (fun a ha => by injection ha with ha; subst ha; exact hgx _ (show wr.heap.size ≤ wr.heap.size + 1 + 1 by omega)) m1 (by omega) hJ4.nsa.tabs hJ4.nsa.files
      have y0 := hbx4.cell 0
      have y1 := hbx4.cell 1
      have y2 := hbx4.cell 2
      have y3 := hbx4.cell 3
      have y4 := hbx4.cell 4
      have y5 := hbx4.cell 5
      simp only [gE0, gE1] at y0 y1 y2 y3 y4 y5
      rw [hW4] at y0 y1 y2 y3 y4 y5
      have HTP := Lib.hid htp
      have HW4 := Lib.hid hW4
      have HJ4 := Lib.hid hJ4
      have HBX4 := Lib.hid hbx4
      have HRW4 := Lib.hid hrw4
      have HGX := Lib.hid hgx
      have HPK := Lib.hid hpk
      have HX := Lib.hid hx
      have HLEN := Lib.hid hlen
      clear htp hJ4 hbx4 hrw4 hgx hpk hx hlen hlx hly hb4 hbx3 hrw3
      go_wp2_with fail
      rw [← hW4]
      clear hW4 y0 y1 y2 y3 y4 y5
      with_reducible refine HTP.out.mono ?_
      rintro e w5 ⟨g5, X5, S5, Y5, V5, rfl, a5, h5, n5, st5, m5, c5, f5⟩
      have hbx5 := HBX4.out.chg c5 (HGX.out _ (by omega))
      have hrw5 := (row_chg c5 HRW4.out (Nat.le_refl _) fun j _ a ha => by injection ha with ha; subst ha; exact HGX.out _ (show wr.heap.size ≤ wr.heap.size + 1 + 1 by omega)).up c5.size
      by_cases h0 : r3 = 0
      ·have e0 : ((r3 : Int) == 0) = true := by simp [h0]
       have hgx5 : ∀ g, wr.heap.size ≤ g → g < W4.heap.size → g ∉ XY X5 Y5 := fun g h1 h2 hm => by
        rcases f5 g hm with z | z
        ·exact HGX.out g h1 z
        ·omega
       have hsl := HBX4.out.lt
       have hslr : wr.heap.size + 1 + 1 < W4.heap.size := by
        obtain ⟨a, ea, hlt2, _⟩ := HRW4.out.cell 0 (by simp [itc, It.cells])
        injection ea with ea
        subst ea
        exact hlt2
       have hl5 : V5.st.length ≤ 1400 := by
        have := joins_len [y] Vb.st
        rw [← st5] at this
        simp at this
        have := HLEN.out
        omega
       have htp := two_put h5 n5 (by omega) (by rw [m5, HJ4.out.mb]; rfl) hl5 HX.out HFX.out.2 (some ⟨wr.heap.size + 1 + 1, 0, none⟩) 1 (Nat.le_refl _) hrw5 (fun a ha => by injection ha with ha; subst ha; exact hgx5 _ (show wr.heap.size ≤ wr.heap.size + 1 + 1 by omega) hslr) m1 (by omega) HJ4.out.nsa.tabs HJ4.out.nsa.files
       have y0 := hbx5.cell 0
       have y1 := hbx5.cell 1
       have y2 := hbx5.cell 2
       have y3 := hbx5.cell 3
       have y4 := hbx5.cell 4
       have y5 := hbx5.cell 5
       simp only [gE0, gE1] at y0 y1 y2 y3 y4 y5
       have HTP := Lib.hid htp
       have H5 := Lib.hid (And.intro st5 (And.intro m5 (And.intro c5 f5)))
       have HSTT : Hid (Stt Vb.st) := Lib.hid HJ4.out.nsb.st
       have HH0 := Lib.hid h0
       clear htp st5 m5 c5 f5 h5 n5 hbx5 hrw5 hgx5 hsl hslr hl5 h0
       go_wp2_with fail
       with_reducible refine HTP.out.mono ?_
       rintro e w6 ⟨g6, X6, S6, Y6, V6, rfl, a6, h6, n6, st6, m6, c6, f6⟩
       obtain ⟨st5, m5, c5, f5⟩ := H5.out
       have hz := HJ4.out.putb (by rw [HPK.out]; exact HX.out) h6.swap n6 (by omega) (by rw [HPK.out, st6, st5]; exact joins_twice HSTT.out) (m6.trans m5) (c5.trans c6 f5) (fun g hg => by
        rcases f6 g hg with z | z
        ·exact f5 g z
        ·exact .inr (Nat.le_trans c5.size z))
       have HZ := Lib.hid hz
       clear hz st5 m5 c5 f5 h6 n6 st6 m6 c6 f6 HTP a5 a6 y0 y1 y2 y3 y4 y5
       go_wp2
       go_roundw
       case rel => exact ⟨2, by omega, rfl, Lib.hid ⟨_, _, _, _, _, _, _, _, by simpa using HZ.out⟩⟩
       case measure => simp [intOf]
      ·have e0 : ((r3 : Int) == 0) = false := by simp; omega
       have hz := HJ4.out.putb (by rw [HPK.out]; exact HX.out) h5.swap n5 (by omega) (by rw [HPK.out, st5]) m5 c5 f5
       have HZ := Lib.hid hz
       clear hz st5 m5 c5 f5 h5 n5 hbx5 hrw5 h0
       go_wp2
       go_roundw
       case rel => exact ⟨2, by omega, rfl, Lib.hid ⟨_, _, _, _, _, _, _, _, by simpa using HZ.out⟩⟩
       case measure => simp [intOf]
    -- END
    ·have hJ : NjI w wr na nb l mt N (k + 1) (k + 1) k A2 q Xa Sa Ya Va Xb Sb Yb Vb := by simpa using HJ1.out
     obtain ⟨⟨c0, c1, c2', c3, c4⟩, _⟩ := KC.out wr hJ.two.a.bel
     have hok := fun W => rok_any x W
     unfold It.val at hok
     have HOK := Lib.hid hok
     have HJJ := Lib.hid hJ
     have hs1 : (k : Int) ≤ (m1 : Int) := by omega
     have hs2 : (m1 : Int) ≤ (c : Int) := by omega
     have hs3 : (c = k) = False := eq_false (by omega)
     have hs4 : m1 - k = 1 := by omega
     clear hok hJ
     go_wp2_with fail
     with_reducible refine (HOK.out _).mono ?_
     rintro e w3 ⟨rfl, hb3⟩
     have HB3 := Lib.hid hb3
     clear hb3 c0 c1 c2' c3 c4
     cases hx : x.ok with
     | false =>
      have HZ := Lib.hid ((HJJ.out.below HB3.out).skipj (by rw [HPX.out]; exact hx))
      clear hx
      go_wp2
      go_roundw
      case rel => exact ⟨m1, q, A2, c2, by omega, rfl, by rw [← hk1], Lib.hid ⟨_, _, _, _, _, _, _, _, by rw [HM1.out]; exact HZ.out⟩⟩
      case measure => simp [intOf]; omega
     | true =>
      have h3 := HJJ.out.below HB3.out
      have hS : Stt (okJoins [] (Nj.la l k)) := by rw [okJoins_eq]; exact (joins_stt _ Stt.nil).1
      have hjn := rjoin_any A2 q c2 (okJoins [] (Nj.la l k)) (some (p.add (k * 5))) 1 (c - k) [x] w3 (by have := h3.lens; omega) hS h3.row ((HROW1.out.below h3.two.a.bel).up h3.two.a.bel.size)
      have HJN := Lib.hid hjn
      have HX := Lib.hid hx
      clear hjn h3 hS hx
      go_wp2_with fail
      with_reducible refine HJN.out.mono ?_
      rintro e w5 ⟨A5, q5, c5, rfl, hq5, hr5, hA5, hb5⟩
      have HZ := Lib.hid ((HJJ.out.below HB3.out).join (q2 := q5) (c2 := c5) (by rw [HPX.out]; exact HX.out) (by rw [HPX.out]; exact ⟨A5, q5, c5, rfl, hq5, hr5, hA5, hb5⟩))
      clear hq5 hr5 hA5 hb5 HJN
      go_wp2
      go_roundw
      case rel => exact ⟨m1, q5, A5, c5, by omega, rfl, by rw [← hk1], Lib.hid ⟨_, _, _, _, _, _, _, _, by rw [HM1.out]; exact HZ.out⟩⟩
      case measure => simp [intOf]; omega
  ·obtain rfl : k = N := by omega
   have hI := HI1.out
   have hlen := hI.lens
   have hwms : IntKind.u64.wrap (ms : Int) = (ms : Int) := IntWalk.u64_in _ (by omega)
   have hask := hask_any hI.two.a.at_ (hI.nsa.nrm (by omega) (by omega) (by omega)) 3 99 ms none 0 0 [] ⟨by simp, by simp, by simp, by simp, by simp only; omega, by simp, rfl, .inl rfl⟩ Row.nil_ (by omega)
   rw [show ((99 : Nat) : Int) = 99 from rfl] at hask
   have HASK := Lib.hid hask
   clear hask hI hlt hk
   go_wp2_with fail
   with_reducible refine HASK.out.mono ?_
   rintro e w5 ⟨X5, Y5, e5, es5, h5, c5, f5, n5, ga, B5, nn5, cc5, rfl, ha, hga, hra, hBa, hgx, hBx⟩
   have hI := HI1.out
   have htwo := hI.two.step h5 c5 f5 n5 hI.nsb.tabs hI.nsb.files
   obtain ⟨st0, hst0⟩ : ∃ st0, st0 = okJoins [] (Nj.la l k) := ⟨_, rfl⟩
   have hsa : Va.st = st0 := by rw [hst0]; exact hI.sa
   have hsb : Vb.st = st0 := by rw [hst0, hI.sb]; exact Nj.same l mt k
   have hrs := (row_chg c5 hI.row (Nat.le_refl _) fun j _ a ha => (hI.out a ha).1).up c5.size
   rw [← hst0] at hrs
   rw [hsa] at hra
   have hla := hra.itlen
   have hlf := List.length_filter_le (fun a : It => a.s == (ms : Int)) st0
   have hq0 : q = st0.length := hrs.itlen.symm
   have hst25 : st0.length ≤ 25 := by rw [← hsa]; omega
   have HK := Lib.hid (fun W' (hb' : Below w5.heap.size w5 W') => And.intro (BoxO.below ha hb') (And.intro ((hra.below hb').up hb'.size) (And.intro ((hrs.below hb').up hb'.size) (htwo.below hb'))))
   have HLN := Lib.hid (And.intro hla (And.intro hlf (And.intro hq0 hst25)))
   have HSA := Lib.hid (And.intro hsa hsb)
   have HSTA := Lib.hid (fun W' (hb' : Below w5.heap.size w5 W') => nstate_any (htwo.below hb').a.at_ (by rw [hsa]; omega))
   have HSTB := Lib.hid (fun W' (hb' : Below w5.heap.size w5 W') => nstate_any (htwo.below hb').b.at_ (by rw [hsb]; omega))
   have HSER := Lib.hid (fun W' (hb' : Below w5.heap.size w5 W') => rseries_any A2 q c2 st0 (ms : Int) W' (by omega) ((hrs.below hb').up hb'.size))
   have HAW := Lib.hid (fun W' (hb : Below w5.heap.size w5 W') => naw_any (HE.out.below (htwo.below hb).a.bel))
   have HAL := Lib.hid (And.intro htwo.a.at_.at_.alen htwo.b.at_.at_.alen)
   clear e5 es5 h5 c5 f5 n5 ha hga hra hBa hgx hBx hI htwo hst0 hsa hsb hrs hla hlf hq0 hst25 HASK hlen
   go_wp2_with fail
   refine wp_region_held_drew (S := fun w' => Below w5.heap.size w5 w') rfl (below_drew (Below.refl _ _)) (fun hSw => ?_)
   refine wpT (i := 0) (v := ?vnj0) ?hnj0 hSw ?knj0
   case hnj0 => (intro w hSw; (obtain ⟨x, _, _, _⟩ := HK.out _ hSw; have a5 := x.cell 5; simp only [gE0, gE1] at a5; clear x); go_simp; try (with_reducible rfl))
   go_simp
   refine wpT (i := 2) (v := ?vnj2) ?hnj2 hSw ?knj2
   case hnj2 => (intro w hSw; (obtain ⟨x, _, _, _⟩ := HK.out _ hSw; have a5 := x.cell 5; simp only [gE0, gE1] at a5; clear x); go_simp; try (with_reducible rfl))
   go_simp
   refine wpAnyH_ready (rs := [1]) (by kernel_rfl) (by simp) ?_
   refine AllReadyH.cons rfl (fun K hK => ?_) AllReadyH.nil
   go_simp
   with_reducible refine (HSTA.out _ hSw).mono ?_
   rintro e w6 ⟨A6, c6, rfl, ho6, hb6⟩; have HEQ := Lib.hid (requal_any A6 Y5.A.n c6 Va.st A2 q c2 st0 w6 (by have := HAL.out.1; rw [HSA.out.1] at this; have := HLN.out; omega) (by have := HLN.out; omega) (Row.own ho6) (HK.out _ (later_ hSw hb6)).2.2.1); (rw [HSA.out.1, decide_eq_true rfl] at HEQ); clear ho6
   go_simp
   refine hK.out _ _ (later_ hSw hb6) (fun hSn => ?_)
   clear hK K hSw
   have hSw := hSn
   clear hSn
   go_simp
   refine wpAnyH_ready (rs := [3]) (by kernel_rfl) (by simp) ?_
   refine AllReadyH.cons rfl (fun K hK => ?_) AllReadyH.nil
   go_simp
   with_reducible refine HEQ.out.mono ?_
   rintro e w7 ⟨rfl, hb7⟩; clear HEQ
   go_simp
   refine hK.out _ _ (later_ hSw hb7) (fun hSn => ?_)
   clear hK K hSw
   have hSw := hSn
   clear hSn
   go_simp
   refine wpT (i := 4) (v := ?vnj4) ?hnj4 hSw ?knj4
   case hnj4 => (intro w hSw; (obtain ⟨x, _, _, _⟩ := HK.out _ hSw; have a5 := x.cell 5; simp only [gE0, gE1] at a5; clear x); go_simp; try (with_reducible rfl))
   go_simp
   refine wpT (i := 5) (v := ?vnj5) ?hnj5 hSw ?knj5
   case hnj5 => (intro w hSw; (obtain ⟨x, _, _, _⟩ := HK.out _ hSw; have a5 := x.cell 5; simp only [gE0, gE1] at a5; clear x); go_simp; try (with_reducible rfl))
   go_simp
   refine wpT (i := 7) (v := ?vnj7) ?hnj7 hSw ?knj7
   case hnj7 => (intro w hSw; (obtain ⟨x, _, _, _⟩ := HK.out _ hSw; have a5 := x.cell 5; simp only [gE0, gE1] at a5; clear x); go_simp; try (with_reducible rfl))
   go_simp
   refine wpAnyH_ready (rs := [6]) (by kernel_rfl) (by simp) ?_
   refine AllReadyH.cons rfl (fun K hK => ?_) AllReadyH.nil
   go_simp
   with_reducible refine (HSTB.out _ hSw).mono ?_
   rintro e w8 ⟨A8, c8, rfl, ho8, hb8⟩; have HEQ := Lib.hid (requal_any A8 Yb.A.n c8 Vb.st A2 q c2 st0 w8 (by have := HAL.out.2; rw [HSA.out.2] at this; have := HLN.out; omega) (by have := HLN.out; omega) (Row.own ho8) (HK.out _ (later_ hSw hb8)).2.2.1); (rw [HSA.out.2, decide_eq_true rfl] at HEQ); clear ho8
   go_simp
   refine hK.out _ _ (later_ hSw hb8) (fun hSn => ?_)
   clear hK K hSw
   have hSw := hSn
   clear hSn
   go_simp
   refine wpAnyH_ready (rs := [8]) (by kernel_rfl) (by simp) ?_
   refine AllReadyH.cons rfl (fun K hK => ?_) AllReadyH.nil
   go_simp
   with_reducible refine HEQ.out.mono ?_
   rintro e w9 ⟨rfl, hb9⟩; clear HEQ
   go_simp
   refine hK.out _ _ (later_ hSw hb9) (fun hSn => ?_)
   clear hK K hSw
   have hSw := hSn
   clear hSn
   go_simp
   refine wpT (i := 9) (v := ?vnj9) ?hnj9 hSw ?knj9
   case hnj9 => (intro w hSw; (obtain ⟨x, _, _, _⟩ := HK.out _ hSw; have a5 := x.cell 5; simp only [gE0, gE1] at a5; clear x); go_simp; try (with_reducible rfl))
   go_simp
   refine wpT (i := 10) (v := ?vnj10) ?hnj10 hSw ?knj10
   case hnj10 => (intro w hSw; (obtain ⟨x, _, _, _⟩ := HK.out _ hSw; have a5 := x.cell 5; simp only [gE0, gE1] at a5; clear x); go_simp; try (with_reducible rfl))
   go_simp
   refine wpT (i := 11) (v := ?vnj11) ?hnj11 hSw ?knj11
   case hnj11 => (intro w hSw; (obtain ⟨x, _, _, _⟩ := HK.out _ hSw; have a5 := x.cell 5; simp only [gE0, gE1] at a5; clear x); go_simp; try (with_reducible rfl))
   go_simp
   refine wpT (i := 12) (v := ?vnj12) ?hnj12 hSw ?knj12
   case hnj12 => (intro w hSw; (obtain ⟨x, _, _, _⟩ := HK.out _ hSw; have a5 := x.cell 5; simp only [gE0, gE1] at a5; clear x); go_simp; try (with_reducible rfl))
   go_simp
   refine wpT (i := 13) (v := ?vnj13) ?hnj13 hSw ?knj13
   case hnj13 => (intro w hSw; (obtain ⟨x, _, _, _⟩ := HK.out _ hSw; have a5 := x.cell 5; simp only [gE0, gE1] at a5; clear x); go_simp; try (with_reducible rfl))
   go_simp
   refine wpT (i := 14) (v := ?vnj14) ?hnj14 hSw ?knj14
   case hnj14 => (intro w hSw; (obtain ⟨x, _, _, _⟩ := HK.out _ hSw; have a5 := x.cell 5; simp only [gE0, gE1] at a5; clear x); go_simp; try (with_reducible rfl))
   go_simp
   refine wpT (i := 15) (v := ?vnj15) ?hnj15 hSw ?knj15
   case hnj15 => (intro w hSw; (obtain ⟨x, _, _, _⟩ := HK.out _ hSw; have a5 := x.cell 5; simp only [gE0, gE1] at a5; clear x); go_simp; try (with_reducible rfl))
   go_simp
   refine wpT (i := 16) (v := ?vnj16) ?hnj16 hSw ?knj16
   case hnj16 => (intro w hSw; (obtain ⟨x, _, _, _⟩ := HK.out _ hSw; have a5 := x.cell 5; simp only [gE0, gE1] at a5; clear x); go_simp; try (with_reducible rfl))
   go_simp
   refine wpT (i := 17) (v := ?vnj17) ?hnj17 hSw ?knj17
   case hnj17 => (intro w hSw; (obtain ⟨x, _, _, _⟩ := HK.out _ hSw; have a5 := x.cell 5; simp only [gE0, gE1] at a5; clear x); go_simp; try (with_reducible rfl))
   go_simp
   refine wpT (i := 18) (v := ?vnj18) ?hnj18 hSw ?knj18
   case hnj18 => (intro w hSw; (obtain ⟨x, _, _, _⟩ := HK.out _ hSw; have a5 := x.cell 5; simp only [gE0, gE1] at a5; clear x); go_simp; try (with_reducible rfl))
   go_simp
   refine wpT (i := 19) (v := ?vnj19) ?hnj19 hSw ?knj19
   case hnj19 => (intro w hSw; (obtain ⟨x, _, _, _⟩ := HK.out _ hSw; have a5 := x.cell 5; simp only [gE0, gE1] at a5; clear x); go_simp; try (with_reducible rfl))
   go_simp
   refine wpT (i := 20) (v := ?vnj20) ?hnj20 hSw ?knj20
   case hnj20 => (intro w hSw; (obtain ⟨x, _, _, _⟩ := HK.out _ hSw; have a5 := x.cell 5; simp only [gE0, gE1] at a5; clear x); go_simp; try (with_reducible rfl))
   go_simp
   refine wpT (i := 21) (v := ?vnj21) ?hnj21 hSw ?knj21
   case hnj21 => (intro w hSw; (obtain ⟨x, _, _, _⟩ := HK.out _ hSw; have a5 := x.cell 5; simp only [gE0, gE1] at a5; clear x); go_simp; try (with_reducible rfl))
   go_simp
   refine wpT (i := 22) (v := ?vnj22) ?hnj22 hSw ?knj22
   case hnj22 => (intro w hSw; (obtain ⟨x, _, _, _⟩ := HK.out _ hSw; have a5 := x.cell 5; simp only [gE0, gE1] at a5; clear x); go_simp; try (with_reducible rfl))
   go_simp
   refine wpAnyH_ready (rs := [23]) (by kernel_rfl) (by simp) ?_
   refine AllReadyH.cons rfl (fun K hK => ?_) AllReadyH.nil
   go_simp
   with_reducible refine (HSER.out _ hSw).mono ?_
   rintro e w10 ⟨A10, k10, c10, rfl, hk10, hi10, hb10⟩; have HEQ := Lib.hid (requal_any B5 nn5 cc5 (st0.filter fun a => a.s == (ms : Int)) A10 k10 c10 (st0.filter fun a => a.s == (ms : Int)) w10 (by have := HLN.out; omega) (by have := hi10.row.itlen; have := HLN.out; omega) (HK.out _ (later_ hSw hb10)).2.1 hi10.row); (rw [decide_eq_true rfl] at HEQ); clear hk10 hi10
   go_simp
   refine hK.out _ _ (later_ hSw hb10) (fun hSn => ?_)
   clear hK K hSw
   have hSw := hSn
   clear hSn
   go_simp
   refine wpAnyH_ready (rs := [24]) (by kernel_rfl) (by simp) ?_
   refine AllReadyH.cons rfl (fun K hK => ?_) AllReadyH.nil
   go_simp
   with_reducible refine HEQ.out.mono ?_
   rintro e w11 ⟨rfl, hb11⟩; clear HEQ
   go_simp
   refine hK.out _ _ (later_ hSw hb11) (fun hSn => ?_)
   clear hK K hSw
   have hSw := hSn
   clear hSn
   go_simp
   refine wpT (i := 25) (v := ?vnj25) ?hnj25 hSw ?knj25
   case hnj25 => (intro w hSw; (obtain ⟨x, _, _, _⟩ := HK.out _ hSw; have a5 := x.cell 5; simp only [gE0, gE1] at a5; clear x); go_simp; try (with_reducible rfl))
   go_simp
   refine wpT (i := 26) (v := ?vnj26) ?hnj26 hSw ?knj26
   case hnj26 => (intro w hSw; (obtain ⟨x, _, _, _⟩ := HK.out _ hSw; have a5 := x.cell 5; simp only [gE0, gE1] at a5; clear x); go_simp; try (with_reducible rfl))
   go_simp
   refine wpAnyH_ready (rs := [27]) (by kernel_rfl) (by simp) ?_
   refine AllReadyH.cons rfl (fun K hK => ?_) AllReadyH.nil
   go_simp
   with_reducible refine (HAW.out _ hSw).mono ?_
   rintro e w12 ⟨rfl, hb12⟩
   go_simp
   refine hK.out _ _ (later_ hSw hb12) (fun hSn => ?_)
   clear hK K hSw
   have hSw := hSn
   clear hSn
   go_simp
   refine wpT (i := 28) (v := ?vnj28) ?hnj28 hSw ?knj28
   case hnj28 => (intro w hSw; (obtain ⟨x, _, _, _⟩ := HK.out _ hSw; have a5 := x.cell 5; simp only [gE0, gE1] at a5; clear x); go_simp; try (with_reducible rfl))
   go_simp
   refine wpT (i := 29) (v := ?vnj29) ?hnj29 hSw ?knj29
   case hnj29 => (intro w hSw; (obtain ⟨x, _, _, _⟩ := HK.out _ hSw; have a5 := x.cell 5; simp only [gE0, gE1] at a5; clear x); go_simp; try (with_reducible rfl))
   go_simp
   refine wpAnyH_done (by kernel_rfl) ?_ _
   have hbz : Below w5.heap.size w5 w12 := later_ (later_ (later_ (later_ (later_ (later_ (later_ (below_drew (Below.refl _ _)) hb6) hb7) hb8) hb9) hb10) hb11) hb12
   have HZ := Lib.hid (HK.out w12 hbz).2.2.2.a.bel
   clear hSw hb6 hb7 hb8 hb9 hb10 hb11 hb12 hbz
   go_wp2
   go_ret
   exact ⟨rfl, HZ.out⟩
end Go.Proofs.YtdkjoigpahafmaaGreatDoor
