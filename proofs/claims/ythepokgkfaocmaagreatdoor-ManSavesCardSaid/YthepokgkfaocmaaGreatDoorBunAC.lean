/- Texts FrameB, AppF, Split, Reader, EditA, EditB, EditC, Box in one. No conditions. -/
import Derived.Test.YthepokgkfaocmaaGreatDoorBunAB
import Derived.Lib.MinMax
import Derived.StillTailTactics

/-
  The walk of frame.Take: the record that stands at a place.
-/
namespace Go.Proofs.YthepokgkfaocmaaGreatDoor
open Go.RowKit

theorem u_take (l : List UInt8) (k : Nat) (hk : k < (l.take 4).length) : Fr.u l k = ((l.take 4)[k]).toNat := by
  have h : k < l.length := by rw [List.length_take] at hk; omega
  simp [Fr.u, h]
/-- The first four bytes of an opened head, as cells of its block. -/
theorem head4 {w : World} {B g : Nat} {l : List UInt8} (h : Row B w (some ⟨g, 0, none⟩) 4 1 (bts (l.take 4))) : ∃ x0 x1 x2 x3 : UInt8, w.cell? ⟨g, 0, none⟩ = some (.int .u8 (x0.toNat : Int)) ∧ w.cell? ⟨g, 1, none⟩ = some (.int .u8 (x1.toNat : Int)) ∧
    w.cell? ⟨g, 2, none⟩ = some (.int .u8 (x2.toNat : Int)) ∧ w.cell? ⟨g, 3, none⟩ = some (.int .u8 (x3.toNat : Int)) ∧ Fr.u l 0 = x0.toNat ∧ Fr.size l = x1.toNat * 65536 + x2.toNat * 256 + x3.toNat := by
  obtain ⟨a0, h0, e0, _, c0⟩ := h.bt (k := 0) (by omega)
  obtain ⟨a1, h1, e1, _, c1⟩ := h.bt (k := 1) (by omega)
  obtain ⟨a2, h2, e2, _, c2⟩ := h.bt (k := 2) (by omega)
  obtain ⟨a3, h3, e3, _, c3⟩ := h.bt (k := 3) (by omega)
  injection e0 with e0; injection e1 with e1; injection e2 with e2; injection e3 with e3
  subst e0; subst e1; subst e2; subst e3
  exact ⟨_, _, _, _, c0, c1, c2, c3, u_take l 0 h0, by rw [Fr.size, u_take l 1 h1, u_take l 2 h2, u_take l 3 h3]⟩
theorem or_i64 (m x k : Nat) (hx : x < 2 ^ k) (h : m * 2 ^ k + x < 9223372036854775808) : bits .or .i64 ((m * 2 ^ k : Nat) : Int) (x : Int) = ((m * 2 ^ k + x : Nat) : Int) := by
  have e : BitVec.ofInt 64 ((m * 2 ^ k : Nat) : Int) ||| BitVec.ofInt 64 (x : Int) = BitVec.ofNat 64 (m * 2 ^ k + x) := by
    rw [BitVec.ofInt_natCast, BitVec.ofInt_natCast]
    apply BitVec.eq_of_toNat_eq
    rw [BitVec.toNat_or, BitVec.toNat_ofNat, BitVec.toNat_ofNat, BitVec.toNat_ofNat, Nat.mod_eq_of_lt (by omega), Nat.mod_eq_of_lt (by omega), Nat.mod_eq_of_lt (by omega), Nat.mul_comm m, Nat.two_pow_add_eq_or_of_lt hx]
  change IntKind.i64.wrap (((BitVec.ofInt 64 ((m * 2 ^ k : Nat) : Int) ||| BitVec.ofInt 64 (x : Int)).toNat : Nat) : Int) = _
  rw [e, BitVec.toNat_ofNat, Nat.mod_eq_of_lt (by omega), IntKind.wrap_i64]
  omega
theorem or_size (a b c : UInt8) : bits .or .i64 (bits .or .i64 ((a.toNat : Int) * 65536) ((b.toNat : Int) * 256)) (c.toNat : Int) = ((a.toNat * 65536 + b.toNat * 256 + c.toNat : Nat) : Int) := by
  have ha : a.toNat < 256 := a.toNat_lt
  have hb : b.toNat < 256 := b.toNat_lt
  have hc : c.toNat < 256 := c.toNat_lt
  have h1 := or_i64 a.toNat (b.toNat * 256) 16 (by omega) (by omega)
  have h2 := or_i64 (a.toNat * 256 + b.toNat) c.toNat 8 (by omega) (by omega)
  rw [show ((a.toNat : Int) * 65536) = ((a.toNat * 2 ^ 16 : Nat) : Int) from by omega, show ((b.toNat : Int) * 256) = ((b.toNat * 256 : Nat) : Int) from by omega, h1,
    show a.toNat * 2 ^ 16 + b.toNat * 256 = (a.toNat * 256 + b.toNat) * 2 ^ 8 from by omega, h2]

set_option maxRecDepth 100000 in
set_option maxHeartbeats 1000000 in
theorem ftake_any (A : Option Addr) (N c : Nat) (l : List UInt8) (p : Nat) (w : World) (hN : N ≤ 1073741824) (hNc : N ≤ c) (hc : c ≤ maxLen) (hr : Row w.heap.size w A N 1 (bts l)) (hp : p ≤ N) :
    Calls Tryz.prog 81 #[.slice A N c, .int .i64 (p : Int)] w fun e w' => ∃ A' M c', e = .returned (.tuple #[.int .i64 ((Fr.take l p).1 : Int), .slice A' M c', .int .i64 ((Fr.take l p).2.2.1 : Int), .int .i64 ((Fr.take l p).2.2.2 : Int)]) ∧
      w'.ownsRow w.heap.size 5 1 (.slice A' M c') M (bts (Fr.take l p).2.1) ∧ M ≤ c' ∧ c' ≤ maxLen ∧ Below w.heap.size w w' := by
  have hln := hr.btlen
  have a1 : ((p : Int) < 0) = False := by simp
  have a2 : ((N : Int) < (p : Int)) = False := by simp; omega
  obtain ⟨res, hres0⟩ : ∃ r, Fr.take l p = r := ⟨_, rfl⟩
  rw [hres0]
  have HRES := Lib.hid hres0
  clear hres0
  obtain ⟨A1, hA1⟩ : ∃ A1, (if c = p then A else Option.map (fun x => x.add p) A) = A1 := ⟨_, rfl⟩
  have hrest : Row w.heap.size w A1 (N - p) 1 (bts (l.drop p)) := by
    have h := hr.cut (A' := A1) hp (Nat.le_refl N) (fun hlt => by rw [← hA1, if_neg (by omega), Nat.mul_one])
    rw [Nat.mul_one, Nat.mul_one, ← bts_drop, ← bts_take] at h
    rwa [List.take_of_length_le (by rw [List.length_drop]; omega)] at h
  by_cases h8 : N - p < 8
  · obtain rfl : res = (0, [], 0, 4) := by
      have hr0 : Fr.take l p = res := HRES
      rw [← hr0]
      unfold Fr.take
      rw [if_pos (by omega)]
    clear hrest
    go_enter Tryz.func81, Tryz.ntmps81
    go_wp2
    exact bodyPost_ret (v := .tuple #[.int .i64 0, .slice none 0 0, .int .i64 0, .int .i64 4]) (by simp [results, go_sem]) rfl ⟨none, 0, 0, rfl, World.ownsRow_nil _ _ _ _, Nat.le_refl _, Nat.zero_le _, Below.refl _ _⟩
  · obtain ⟨a, rfl, hab⟩ := hr.some_ (by rw [bts_length]; omega)
    have hA2 : some (a.add p) = A1 := by rw [← hA1, if_neg (by omega)]; rfl
    subst hA2
    clear hA1
    have hhead : Row w.heap.size w (some (a.add p)) 8 1 (bts ((l.drop p).take 8)) := by
      have h := hrest.pre (m := 8) (by omega)
      rwa [Nat.mul_one, ← bts_take] at h
    have h44 : ((l.drop p).take 8).take 4 = (l.drop p).take 4 := by rw [List.take_take]; rfl
    have hd8 : ((N - p : Nat) : Int) < 8 ↔ False := by simp; omega
    by_cases hs1 : Crc.sealed ((l.drop p).take 4) = (l.drop p).take 8
    · have hop := open_good (some (a.add p)) 8 (c - p) ((l.drop p).take 8) w (by omega) (by omega) (by omega) (by omega) hhead (by rw [show 8 - 4 = 4 from rfl, h44]; simpa using hs1)
      rw [show 8 - 4 = 4 from rfl, h44] at hop
      go_enter Tryz.func81, Tryz.ntmps81
      go_wp2_with fail
      refine hop.mono ?_
      rintro e w1 ⟨A2, c2, rfl, ho1, hc1, hm1, hb1⟩
      have hrest1 := (hrest.below hb1).up hb1.size
      have hhd := Row.own ho1
      clear hop
      obtain ⟨g, rfl⟩ : ∃ g, A2 = some ⟨g, 0, none⟩ := by
        rcases ho1.2 with ⟨_, h0⟩ | ⟨g, _, _, hv, _⟩
        · cases h0
        · injection hv with hv _ _
          exact ⟨g, hv⟩
      obtain ⟨x0, x1, x2, x3, d0, d1, d2, d3, hu, hsz⟩ := head4 hhd
      have HU := Lib.hid hu
      have HSZ := Lib.hid hsz
      have hx0 : x0.toNat < 256 := x0.toNat_lt
      have hx1 : x1.toNat < 256 := x1.toNat_lt
      have hx2 : x2.toNat < 256 := x2.toNat_lt
      have hx3 : x3.toNat < 256 := x3.toNat_lt
      clear hu hsz
      have hor := or_size x1 x2 x3
      have hz : x1.toNat * 65536 + x2.toNat * 256 + x3.toNat < 16777216 := by omega
      generalize x1.toNat * 65536 + x2.toNat * 256 + x3.toNat = z at *
      obtain ⟨q, hq⟩ : ∃ q, a.add p = q := ⟨_, rfl⟩
      rw [hq] at hrest hhead hrest1
      have hx0i : ((x0.toNat : Nat) : Int) = (x0.toNat : Int) := rfl
      generalize x0.toNat = k at *
      by_cases hf : k < 1 ∨ 100 < k ∨ 60000 < z
      · obtain rfl : res = (0, [], 0, 3) := by
          have hr0 : Fr.take l p = res := HRES
          rw [← hr0]
          have hu : Fr.u (l.drop p) 0 = k := HU
          have hsz : Fr.size (l.drop p) = z := HSZ
          unfold Fr.take
          rw [if_neg (by omega), if_neg (fun h => h hs1), hu, hsz, if_pos hf]
        by_cases f1 : k < 1
        · have f1' : ((k : Int) < 1) := by omega
          go_wp2_with fail
          go_quiet (fail)
          go_wp2
          all_goals exact bodyPost_ret (v := .tuple #[.int .i64 0, .slice none 0 0, .int .i64 0, .int .i64 3]) (by simp [results, go_sem]) rfl ⟨none, 0, 0, rfl, World.ownsRow_nil _ _ _ _, Nat.le_refl _, Nat.zero_le _, below_drewN hb1 _⟩
        · have f1' : ((k : Int) < 1) = False := by simp; omega
          by_cases f2 : 100 < k
          · have f2' : ((100 : Int) < (k : Int)) := by omega
            go_wp2_with fail
            go_quiet (fail)
            go_wp2
            all_goals exact bodyPost_ret (v := .tuple #[.int .i64 0, .slice none 0 0, .int .i64 0, .int .i64 3]) (by simp [results, go_sem]) rfl ⟨none, 0, 0, rfl, World.ownsRow_nil _ _ _ _, Nat.le_refl _, Nat.zero_le _, below_drewN hb1 _⟩
          · have f2' : ((100 : Int) < (k : Int)) = False := by simp; omega
            have f3' : ((60000 : Int) < (z : Int)) := by omega
            go_wp2_with fail
            go_quiet (fail)
            go_wp2
            all_goals exact bodyPost_ret (v := .tuple #[.int .i64 0, .slice none 0 0, .int .i64 0, .int .i64 3]) (by simp [results, go_sem]) rfl ⟨none, 0, 0, rfl, World.ownsRow_nil _ _ _ _, Nat.le_refl _, Nat.zero_le _, below_drewN hb1 _⟩
      · have f1' : ((k : Int) < 1) = False := by simp; omega
        have f2' : ((100 : Int) < (k : Int)) = False := by simp; omega
        have f3' : ((60000 : Int) < (z : Int)) = False := by simp; omega
        by_cases ht : N - p - 8 < z + 4
        · obtain rfl : res = (0, [], 0, 4) := by
            have hr0 : Fr.take l p = res := HRES
            rw [← hr0]
            have hu : Fr.u (l.drop p) 0 = k := HU
            have hsz : Fr.size (l.drop p) = z := HSZ
            unfold Fr.take
            rw [if_neg (by omega), if_neg (fun h => h hs1), hu, hsz, if_neg hf, if_pos (by omega)]
          have f4' : (((N - p - 8 : Nat) : Int) < (z : Int) + 4) := by omega
          go_wp2_with fail
          go_quiet (fail)
          go_wp2
          all_goals exact bodyPost_ret (v := .tuple #[.int .i64 0, .slice none 0 0, .int .i64 0, .int .i64 4]) (by simp [results, go_sem]) rfl ⟨none, 0, 0, rfl, World.ownsRow_nil _ _ _ _, Nat.le_refl _, Nat.zero_le _, below_drewN hb1 _⟩
        · have f4' : (((N - p - 8 : Nat) : Int) < (z : Int) + 4) = False := by simp; omega
          have hrest2 : Row w1.heap.size w1 (some (q.add 8)) (N - p - 8) 1 (bts (l.drop (p + 8))) := by
            have h := hrest1.cut (A' := some (q.add 8)) (k := 8) (m := N - p) (by omega) (Nat.le_refl _) (fun _ => rfl)
            rw [Nat.mul_one, Nat.mul_one, ← bts_drop, ← bts_take, List.drop_drop] at h
            rwa [List.take_of_length_le (by rw [List.length_drop]; omega)] at h
          have hbody : Row w1.heap.size w1 (some (q.add 8)) (z + 4) 1 (bts ((l.drop (p + 8)).take (z + 4))) := by
            have h := hrest2.pre (m := z + 4) (by omega)
            rwa [Nat.mul_one, ← bts_take] at h
          have e8 : q.add 8 = ⟨q.block, q.off + 8, none⟩ := rfl
          rw [e8] at hbody
          have h44b : ((l.drop (p + 8)).take (z + 4)).take z = (l.drop (p + 8)).take z := by rw [List.take_take, Nat.min_eq_left (by omega)]
          by_cases hs2 : Crc.sealed ((l.drop (p + 8)).take z) = (l.drop (p + 8)).take (z + 4)
          · obtain rfl : res = (k, (l.drop (p + 8)).take z, p + 8 + z + 4, 0) := by
              have hr0 : Fr.take l p = res := HRES
              rw [← hr0]
              have hu : Fr.u (l.drop p) 0 = k := HU
              have hsz : Fr.size (l.drop p) = z := HSZ
              unfold Fr.take
              rw [if_neg (by omega), if_neg (fun h => h hs1), hu, hsz, if_neg hf, if_neg (by omega), if_neg (fun h => h hs2)]
            have hop2 := fun nq => open_good (some ⟨q.block, q.off + 8, none⟩) (z + 4) (c - p - 8) ((l.drop (p + 8)).take (z + 4)) (w1.drewN nq) (by omega) (by omega) (by omega) (by omega) (hbody.drewN nq) (by rw [Nat.add_sub_cancel, h44b]; simpa using hs2)
            rw [Nat.add_sub_cancel, h44b] at hop2
            clear hs1 hs2 h44 h44b
            go_wp2_with fail
            go_quiet (fail)
            go_wp2_with fail
            refine (hop2 _).mono ?_
            rintro e w2 ⟨A4, c4, rfl, ho4, hc4, hm4, hb4⟩
            have hb := later_ (below_drewN hb1 nq) hb4
            have ho := own_base ho4 (hb1.size : w.heap.size ≤ (w1.drewN nq).heap.size)
            clear hop2 hb4 ho4 hbody hrest2 hrest1 hhd
            go_wp2
            refine bodyPost_ret (v := .tuple #[.int .i64 (k : Int), .slice A4 z c4, .int .i64 ((p : Int) + 4 + 4 + (z : Int) + 4), .int .i64 0]) (by simp [results, go_sem]) rfl ⟨A4, z, c4, ?_, ho, hc4, hm4, hb⟩
            have e5 : (p : Int) + 4 + 4 + (z : Int) + 4 = ((p + 8 + z + 4 : Nat) : Int) := by omega
            rw [e5]
            rfl
          · obtain rfl : res = (0, [], 0, 5) := by
              have hr0 : Fr.take l p = res := HRES
              rw [← hr0]
              have hu : Fr.u (l.drop p) 0 = k := HU
              have hsz : Fr.size (l.drop p) = z := HSZ
              unfold Fr.take
              rw [if_neg (by omega), if_neg (fun h => h hs1), hu, hsz, if_neg hf, if_neg (by omega), if_pos hs2]
            have hop2 := fun nq => open_bad (some ⟨q.block, q.off + 8, none⟩) (z + 4) (c - p - 8) ((l.drop (p + 8)).take (z + 4)) (w1.drewN nq) (by omega) (by omega) (by omega) (by omega) (hbody.drewN nq) (by rw [Nat.add_sub_cancel, h44b]; simpa using hs2)
            clear hs1 hs2 h44 h44b
            go_wp2_with fail
            go_quiet (fail)
            go_wp2_with fail
            refine (hop2 _).mono ?_
            rintro e w2 ⟨rfl, hb4⟩
            have hb := later_ (below_drewN hb1 nq) hb4
            clear hop2 hb4 hbody hrest2 hrest1 hhd
            go_wp2
            exact bodyPost_ret (v := .tuple #[.int .i64 0, .slice none 0 0, .int .i64 0, .int .i64 5]) (by simp [results, go_sem]) rfl ⟨none, 0, 0, rfl, World.ownsRow_nil _ _ _ _, Nat.le_refl _, Nat.zero_le _, hb⟩
    · have hop := open_bad (some (a.add p)) 8 (c - p) ((l.drop p).take 8) w (by omega) (by omega) (by omega) (by omega) hhead (by rw [show 8 - 4 = 4 from rfl, h44]; simpa using hs1)
      obtain rfl : res = (0, [], 0, 5) := by
        have hr0 : Fr.take l p = res := HRES
        rw [← hr0]
        unfold Fr.take
        rw [if_neg (by omega), if_pos hs1]
      go_enter Tryz.func81, Tryz.ntmps81
      go_wp2_with fail
      refine hop.mono ?_
      rintro e w1 ⟨rfl, hb1⟩
      clear hop
      go_wp2
      exact bodyPost_ret (v := .tuple #[.int .i64 0, .slice none 0 0, .int .i64 0, .int .i64 5]) (by simp [results, go_sem]) rfl ⟨none, 0, 0, rfl, World.ownsRow_nil _ _ _ _, Nat.le_refl _, Nat.zero_le _, hb1⟩
end Go.Proofs.YthepokgkfaocmaaGreatDoor

/-
  Words for memory, more: an append that tells where the row lies behind it; rows that an append leaves alone.
-/
namespace Go.Proofs.YthepokgkfaocmaaGreatDoor
open Go Go.RowKit

theorem wpList_appF {P : Program} {w : World} {ops : Array Oper} {rest : List Oper} {o : Oper} {a : Act} {Q : Exit → Act → World → Prop} (hgd : o.guard = none) (s x : Operand) (t : TypeId)
    (ho : o.op = .call { callee := .builtin .append, args := #[s, x], argTypes := #[t, t] })
    (base : Nat) (e : TypeId) (i : TypeInfo) (z : Value) (size bytes : Nat) (ht : P.underlying t = some (.slice e)) (hi : P.info? e = some i) (hz : i.zero = some z)
    (hsize : i.size = size) (hby : i.bytes = bytes) (hzs : z.cells.size = size) (hsz : 0 < size) (w0 : World) (hb : Below base w0 w) (hbase : base ≤ w.heap.size) (v : Value) (n : Nat) (xs : List Value) (hs : a.eval s = v) (hown : w.ownsRow base e size v n xs)
    (B : Nat) (A : Option Addr) (m c : Nat) (hm : 0 < m) (news : List Value) (hx : a.eval x = .slice A m c) (hr : Row B w A m size news) (h1 : ∀ u ∈ news, u.oneCell' = true)
    (N : Nat) (X : List Value) (hN : n + m = N) (hX : xs ++ news = X) (h63 : N ≤ maxLen) (hbytes : N * bytes ≤ 140737488355328)
    (h : ∀ A' c' w', w'.ownsRow base e size (.slice A' N c') N X → Below base w0 w' → w.grownBy w' v.ownBlock → N ≤ c' → c' ≤ maxLen → ((Value.slice A' N c').ownBlock = v.ownBlock ∨ (Value.slice A' N c').ownBlock = some w.heap.size) → wpList P ops Q rest (a.put o.dst (.slice A' N c')) w') : wpList P ops Q (o :: rest) a w := by
  subst hN
  subst hX
  have hpos : 0 < news.length := by
    rw [hr.len]
    exact Nat.mul_pos hm hsz
  obtain ⟨a', rfl, _⟩ := hr.some_ hpos
  obtain ⟨v', w', hrun, h3, h4, _, h6⟩ := run_append_own_at (P := P) (ty := o.type) w base t e i z size bytes ht hi hz hsize hby hzs hsz v n xs hown a' m c news hr.len hr.cells h1 h63 hbytes hbase
  obtain ⟨A', c', rfl, h5, h7, _⟩ := own_form h3
  refine wpList_plain hgd fun _ hK => ?_
  unfold Oper.wp execOp
  simp only [ho, resolve, invoke, builtin, Sem.run_bind, Sem.run_pure, Result.andThen_ok, List.map_toArray, List.map_cons, List.map_nil, hs, hx, hrun]
  exact hK _ _ (h A' c' w' h3 (below_own hb hown h4 hbase) h4 h5 h7 h6)
theorem Row.grow {B n size : Nat} {w w' : World} {A : Option Addr} {xs : List Value} {r : Option Nat} (h : Row B w A n size xs) (hg : w.grownBy w' r) (hne : ∀ a, A = some a → some a.block ≠ r) : Row B w' A n size xs :=
  ⟨h.len, fun j hj => let ⟨a, e, b, c⟩ := h.cell j hj; ⟨a, e, b, hg.cell c (by rw [add_block]; exact hne a e)⟩⟩
end Go.Proofs.YthepokgkfaocmaaGreatDoor

/-
  The walk of frame.Split: all records from the beginning on, kinds and bodies.
-/
namespace Go.Proofs.YthepokgkfaocmaaGreatDoor
open Go.RowKit

/-- Small numbers as cells of type int. -/
def i64v (ks : List Nat) : List Value := ks.map fun k : Nat => .int .i64 (k : Int)
theorem i64v_len (ks : List Nat) : (i64v ks).length = ks.length := by simp [i64v]
theorem i64v_snoc (ks : List Nat) (k : Nat) : i64v ks ++ [.int .i64 (k : Int)] = i64v (ks ++ [k]) := by simp [i64v]
theorem info_int : (Tryz.prog.info? 3).map (fun i => (i.zero, i.size, i.bytes)) = some (some (.int .i64 0), 1, 8) := by kernel_rfl
theorem info_bytes : (Tryz.prog.info? 32).map (fun i => (i.zero, i.size, i.bytes)) = some (some (.slice none 0 0), 1, 24) := by kernel_rfl

/-- Kinds and bodies that the call owns, each body in a block apart from the two rows. -/
structure Bods (base : Nat) (w : World) (kv bv : Value) (ks : List Nat) (bs : List (List UInt8)) : Prop where
  kinds : w.ownsRow base 3 1 kv ks.length (i64v ks)
  row : ∃ vs, w.ownsRow base 32 1 bv bs.length vs ∧ ∀ i (h : i < bs.length), ∃ A k c, vs[i]? = some (.slice A k c) ∧ k ≤ c ∧ c ≤ maxLen ∧ Row w.heap.size w A k 1 (bts bs[i]) ∧ ∀ a, A = some a → a.block < w.heap.size ∧ some a.block ≠ kv.ownBlock ∧ some a.block ≠ bv.ownBlock ∧ base ≤ a.block
  sep : ∀ g, kv.ownBlock = some g → bv.ownBlock ≠ some g

variable {base : Nat} {w w' : World} {kv bv : Value} {ks : List Nat} {bs : List (List UInt8)}
theorem Bods.start (base : Nat) (w : World) : Bods base w (.slice none 0 0) (.slice none 0 0) [] [] :=
  ⟨World.ownsRow_nil _ _ _ _, ⟨[], World.ownsRow_nil _ _ _ _, fun i h => absurd h (by simp)⟩, fun g h => by cases h⟩
theorem Bods.below (h : Bods base w kv bv ks bs) (hb : Below w.heap.size w w') : Bods base w' kv bv ks bs := by
  obtain ⟨vs, hv, hx⟩ := h.row
  refine ⟨own_below h.kinds hb, ⟨vs, own_below hv hb, fun i hi => ?_⟩, h.sep⟩
  obtain ⟨A, k, c, e, h1, h2, h3, h4⟩ := hx i hi
  exact ⟨A, k, c, e, h1, h2, (h3.below hb).up hb.size, fun a ha => ⟨Nat.lt_of_lt_of_le (h4 a ha).1 hb.size, (h4 a ha).2⟩⟩
theorem Bods.alloc (h : Bods base w kv bv ks bs) (o : Obj) : Bods base (w.alloc o) kv bv ks bs := h.below ((Below.refl _ _).alloc (Nat.le_refl _) o)
theorem own_step {v v' : Value} {b : Nat} (hv : v'.ownBlock = v.ownBlock ∨ v'.ownBlock = some w.heap.size) (hb : b < w.heap.size) (h : some b ≠ v.ownBlock) : some b ≠ v'.ownBlock := by
  rcases hv with hv | hv
  · rw [hv]; exact h
  · rw [hv]
    intro e
    injection e with e
    omega
theorem Bods.addK (h : Bods base w kv bv ks bs) {kv' : Value} {k : Nat} (hg : w.grownBy w' kv.ownBlock) (ho : w'.ownsRow base 3 1 kv' (ks.length + 1) (i64v (ks ++ [k]))) (hv : kv'.ownBlock = kv.ownBlock ∨ kv'.ownBlock = some w.heap.size) : Bods base w' kv' bv (ks ++ [k]) bs := by
  obtain ⟨vs, hr, hx⟩ := h.row
  have hlt : ∀ g, bv.ownBlock = some g → g < w.heap.size := fun g e => (hr.lt g e).2
  have hne : bv.ownBlock = none ∨ bv.ownBlock ≠ kv.ownBlock := by
    cases e : bv.ownBlock with
    | none => exact .inl rfl
    | some g => exact .inr fun e2 => h.sep g e2.symm e
  refine ⟨by simpa using ho, ⟨vs, hr.kept hg hne, fun i hi => ?_⟩, ?_⟩
  · obtain ⟨A, k, c, e, h1, h2, h3, h4⟩ := hx i hi
    exact ⟨A, k, c, e, h1, h2, (h3.grow hg (fun a ha => (h4 a ha).2.1)).up hg.size, fun a ha => ⟨Nat.lt_of_lt_of_le (h4 a ha).1 hg.size, own_step hv (h4 a ha).1 (h4 a ha).2.1, (h4 a ha).2.2⟩⟩
  · intro g hg2 hb2
    have h1 := hlt g hb2
    exact own_step hv h1 (fun e => h.sep g e.symm hb2) hg2.symm
theorem Bods.addB (h : Bods base w kv bv ks bs) {bv' : Value} {b : List UInt8} {A : Option Addr} {M c : Nat} {vs' : List Value} (hM : M ≤ c) (hc : c ≤ maxLen) (hr : Row w.heap.size w A M 1 (bts b)) (hA : ∀ a, A = some a → a.block < w.heap.size ∧ some a.block ≠ kv.ownBlock ∧ some a.block ≠ bv.ownBlock ∧ base ≤ a.block)
    (hg : w.grownBy w' bv.ownBlock) (hvs : ∀ vs, w.ownsRow base 32 1 bv bs.length vs → vs' = vs ++ [.slice A M c]) (ho : w'.ownsRow base 32 1 bv' (bs.length + 1) vs') (hv : bv'.ownBlock = bv.ownBlock ∨ bv'.ownBlock = some w.heap.size) : Bods base w' kv bv' ks (bs ++ [b]) := by
  obtain ⟨vs, hvr, hx⟩ := h.row
  obtain rfl := hvs vs hvr
  have hlt : ∀ g, kv.ownBlock = some g → g < w.heap.size := fun g e => (h.kinds.lt g e).2
  have hne : kv.ownBlock = none ∨ kv.ownBlock ≠ bv.ownBlock := by
    cases e : kv.ownBlock with
    | none => exact .inl rfl
    | some g => exact .inr fun e2 => h.sep g e e2.symm
  have hvl : vs.length = bs.length := by have := hvr.1; omega
  refine ⟨h.kinds.kept hg hne, ⟨vs ++ [.slice A M c], by simpa using ho, fun i hi => ?_⟩, ?_⟩
  · by_cases hi2 : i < bs.length
    · obtain ⟨A, k, c, e, h1, h2, h3, h4⟩ := hx i hi2
      refine ⟨A, k, c, by rw [List.getElem?_append_left (by omega)]; exact e, h1, h2, ?_, fun a ha => ⟨Nat.lt_of_lt_of_le (h4 a ha).1 hg.size, (h4 a ha).2.1, own_step hv (h4 a ha).1 (h4 a ha).2.2.1, (h4 a ha).2.2.2⟩⟩
      rw [List.getElem_append_left hi2]
      exact (h3.grow hg (fun a ha => (h4 a ha).2.2.1)).up hg.size
    · have hi3 : i = bs.length := by simp at hi; omega
      subst hi3
      refine ⟨A, M, c, by rw [List.getElem?_append_right (by omega), hvl]; simp, hM, hc, ?_, fun a ha => ⟨Nat.lt_of_lt_of_le (hA a ha).1 hg.size, (hA a ha).2.1, own_step hv (hA a ha).1 (hA a ha).2.2.1, (hA a ha).2.2.2⟩⟩
      have e1 : (bs ++ [b])[bs.length]'(by simp) = b := by simp
      rw [e1]
      exact (hr.grow hg (fun a ha => (hA a ha).2.2.1)).up hg.size
  · intro g hg2 hb2
    have h1 := hlt g hg2
    exact own_step hv h1 (fun e => h.sep g hg2 e.symm) hb2.symm

theorem own_same {w : World} {base : Nat} {e : TypeId} {v : Value} {n size : Nat} {xs ys : List Value} (h : w.ownsRow base e size v n xs) (k : w.ownsRow base e size v n ys) : xs = ys := by
  rcases h.2 with ⟨rfl, rfl⟩ | ⟨g, cap, cur, rfl, _, hg, _, _, _, ht⟩
  · have h1 := h.1
    have h2 := k.1
    simp at h1 h2
    rw [h1, h2]
  · rcases k.2 with ⟨hv, _⟩ | ⟨g2, cap2, cur2, hv, _, hg2, _, _, _, ht2⟩
    · cases hv
    · injection hv with hv1 _ _
      injection hv1 with hv1
      injection hv1 with hv1
      subst hv1
      rw [hg] at hg2
      injection hg2 with hg2
      injection hg2 with hg2
      subst hg2
      rw [← ht, ← ht2]
theorem splitF_stop {f : Nat} {l : List UInt8} {e : Nat} {ks : List Nat} {bs : List (List UInt8)} (h : ¬e < l.length) : Fr.splitF f l e ks bs = (ks, bs, e, 0) := by
  cases f with
  | zero => rfl
  | succ f => rw [Fr.splitF, if_neg h]

set_option maxRecDepth 100000 in
set_option maxHeartbeats 1000000 in
theorem split_any (A : Option Addr) (N c : Nat) (l : List UInt8) (w : World) (hN : N ≤ 1000000000) (hNc : N ≤ c) (hc : c ≤ maxLen) (hr : Row w.heap.size w A N 1 (bts l)) :
    Calls Tryz.prog 106 #[.slice A N c] w fun e w' => ∃ kv bv, e = .returned (.tuple #[kv, bv, .int .i64 ((Fr.split l).2.2.1 : Int), .int .i64 ((Fr.split l).2.2.2 : Int)]) ∧
      Bods w.heap.size w' kv bv (Fr.split l).1 (Fr.split l).2.1 ∧ Below w.heap.size w w' := by
  obtain ⟨ii, hi0, hi1, hi2, hi3⟩ := info_parts info_int
  obtain ⟨ib, hb0, hb1, hb2, hb3⟩ := info_parts info_bytes
  have hln := hr.btlen
  obtain ⟨res, hres0⟩ : ∃ r, Fr.split l = r := ⟨_, rfl⟩
  rw [hres0]
  have HRES := Lib.hid hres0
  clear hres0
  go_enter Tryz.func106, Tryz.ntmps106
  go_wp2
  go_loopw [2, 3, 4] (fun kv bv x wr => ∃ (f e : Nat) (ks : List Nat) (bs : List (List UInt8)) (kA bA : Option Addr) (kc bc : Nat), kv = .slice kA ks.length kc ∧ bv = .slice bA bs.length bc ∧ x = .int .i64 (e : Int) ∧ e ≤ N ∧ 12 * ks.length ≤ e ∧ 12 * bs.length ≤ e ∧ N < f + e ∧ Hid (Fr.splitF f l e ks bs = res) ∧
    Bods w.heap.size wr kv bv ks bs ∧ Below w.heap.size w wr) (fun _ _ x _ => N - (intOf x).toNat)
  case atStart => exact ⟨N + 1, 0, [], [], none, none, 0, 0, rfl, rfl, rfl, Nat.zero_le _, by simp, by simp, by omega, by have h : Fr.split l = res := HRES; rw [← h, Fr.split, hln]; exact Lib.hid rfl, Bods.start _ _, Below.refl _ _⟩
  case round =>
    obtain ⟨f, e, ks, bs, kA, bA, kc, bc, rfl, rfl, rfl, he, hk12, hb12, hf, HS, hbods, hb⟩ := hrel
    by_cases hlt : e < N
    · have hta := ftake_any A N c l e wr (by omega) hNc hc ((hr.below hb).up hb.size) he
      obtain ⟨t, ht0⟩ : ∃ t, Fr.take l e = t := ⟨_, rfl⟩
      rw [ht0] at hta
      have HT := Lib.hid ht0
      clear ht0
      go_wp2_with fail
      refine hta.mono ?_
      rintro e1 w1 ⟨A1, M1, c1, rfl, ho1, hM1, hc1, hbb1⟩
      clear hta
      by_cases hok : t.2.2.2 = 0
      · have hok' : ((t.2.2.2 : Int) == 0) = true := by simp [hok]
        have hok2 : (!((t.2.2.2 : Int) == 0)) = false := by rw [hok']; rfl
        have hbods1 := (hbods.below hbb1).alloc (.cells #[.int .i64 (t.1 : Int)] 3)
        have hlt1 := ho1.lt
        have hbnd : ∀ a, A1 = some a → wr.heap.size ≤ a.block ∧ a.block < w1.heap.size := fun a ha => by subst ha; exact hlt1 _ rfl
        have hrow1 := Row.own ho1
        have hbw := later_ hb hbb1
        have hkr := Row.new w1 #[.int .i64 (t.1 : Int)] 3 (n := 1) (size := 1) rfl
        go_wp2_with (at_builtin; refine stop_in ?_)
        refine stop_out (wpList_appF rfl (.tmp 28) (.tmp 30) _ rfl w.heap.size 3 ii _ 1 8 Tryz.underlying37 hi0 hi1 hi2 hi3 rfl (by omega) w (hbw.alloc hbw.size _) (Nat.le_trans hbw.size (by simp)) (.slice kA ks.length kc) ks.length (i64v ks) rfl hbods1.kinds (w1.heap.size + 1) _ 1 1 (by omega) [.int .i64 (t.1 : Int)] rfl hkr (by intro u hu; simp at hu; subst hu; rfl) (ks.length + 1) (i64v (ks ++ [t.1])) rfl (i64v_snoc ks t.1) (by unfold maxLen; omega) (by omega) ?_)
        intro A3 c3 w3 hown3 hbb3 hg3 hc3 hm3 hv3
        have hbods3 := hbods1.addK hg3 hown3 hv3
        have hrow3 : Row w3.heap.size w3 A1 M1 1 (bts t.2.1) := by
          have h := (hrow1.alloc (Nat.le_refl _) (.cells #[.int .i64 (t.1 : Int)] 3)).up (B' := (w1.alloc (.cells #[.int .i64 (t.1 : Int)] 3)).heap.size) (by simp)
          exact (h.grow hg3 (fun a ha => by
            have h1 := hbnd a ha
            intro e2
            have h2 := (hbods.kinds.lt _ e2.symm).2
            omega)).up hg3.size
        have hA3 : ∀ a, A1 = some a → a.block < w3.heap.size ∧ some a.block ≠ (Value.slice A3 (ks.length + 1) c3).ownBlock ∧ some a.block ≠ (Value.slice bA bs.length bc).ownBlock ∧ w.heap.size ≤ a.block := fun a ha => by
          have h1 := hbnd a ha
          have hz : w1.heap.size < w3.heap.size := Nat.lt_of_lt_of_le (by simp) hg3.size
          refine ⟨by omega, own_step hv3 (by simp; omega) (fun e2 => ?_), fun e2 => ?_, by have := hb.size; omega⟩
          · have h2 := (hbods.kinds.lt _ e2.symm).2
            omega
          · obtain ⟨vs, hvs, _⟩ := hbods.row
            have h2 := (hvs.lt _ e2.symm).2
            omega
        have hz3 := hbb3.size
        clear hbods1 hrow1 hown3 hkr hlt1 hbnd ho1 hg3 hv3
        have hbr := Row.new w3 #[.slice A1 M1 c1] 32 (n := 1) (size := 1) rfl
        have hbods4 := hbods3.alloc (.cells #[.slice A1 M1 c1] 32)
        obtain ⟨vs, hvs, hvx⟩ := hbods4.row
        go_wp2_with (at_builtin; refine stop_in ?_)
        refine stop_out (wpList_appF rfl (.tmp 32) (.tmp 34) _ rfl w.heap.size 32 ib _ 1 24 Tryz.underlying164 hb0 hb1 hb2 hb3 rfl (by omega) w (hbb3.alloc hbb3.size _) (Nat.le_trans hbb3.size (by simp)) (.slice bA bs.length bc) bs.length vs rfl hvs (w3.heap.size + 1) _ 1 1 (by omega) [.slice A1 M1 c1] rfl hbr (by intro u hu; simp at hu; subst hu; rfl) (bs.length + 1) (vs ++ [.slice A1 M1 c1]) rfl rfl (by unfold maxLen; omega) (by omega) ?_)
        intro A5 c5 w5 hown5 hbb5 hg5 hc5 hm5 hv5
        have hbods5 := hbods4.addB (b := t.2.1) hM1 hc1 ((hrow3.alloc (Nat.le_refl _) _).up (by simp)) (fun a ha => ⟨Nat.lt_of_lt_of_le (hA3 a ha).1 (by simp), (hA3 a ha).2⟩) hg5 (fun vs2 h2 => by rw [own_same hvs h2]) hown5 hv5
        clear hbods hbods3 hbods4 hvs hvx hbr hown5 hg5 hv5 hA3 hrow3
        go_wp2
        go_roundw
        case rel =>
          have ht : Fr.take l e = t := HT
          have hnx := Fr.take_next (l := l) (p := e) (by rw [ht]; exact hok)
          rw [ht, hln] at hnx
          obtain ⟨f, rfl⟩ : ∃ g, f = g + 1 := ⟨f - 1, by omega⟩
          have hs : Fr.splitF (f + 1) l e ks bs = res := HS
          rw [Fr.splitF, if_pos (by omega), ht, if_pos hok] at hs
          refine ⟨f, t.2.2.1, ks ++ [t.1], bs ++ [t.2.1], A3, A5, c3, c5, by simp, by simp, rfl, by omega, by simp; omega, by simp; omega, by omega, Lib.hid hs, ?_, hbb5⟩
          exact hbods5
        case measure =>
          have ht : Fr.take l e = t := HT
          have hnx := Fr.take_next (l := l) (p := e) (by rw [ht]; exact hok)
          rw [ht] at hnx
          simp [intOf]; omega
      · have hok' : ((t.2.2.2 : Int) == 0) = false := by simp; omega
        have hok2 : (!((t.2.2.2 : Int) == 0)) = true := by rw [hok']; rfl
        obtain rfl : res = (ks, bs, e, t.2.2.2) := by
          have ht : Fr.take l e = t := HT
          have hs : Fr.splitF f l e ks bs = res := HS
          obtain ⟨f, rfl⟩ : ∃ g, f = g + 1 := ⟨f - 1, by omega⟩
          rw [← hs, Fr.splitF, if_pos (by omega), ht, if_neg hok]
        have hbods1 := hbods.below hbb1
        have hbw := later_ hb hbb1
        clear hbods hbb1 ho1
        go_wp2
        exact bodyPost_ret (v := .tuple #[.slice kA ks.length kc, .slice bA bs.length bc, .int .i64 (e : Int), .int .i64 (t.2.2.2 : Int)]) (by simp [results, go_sem]) rfl ⟨_, _, rfl, hbods1, hbw⟩
    · obtain rfl : res = (ks, bs, e, 0) := by
        have hs : Fr.splitF f l e ks bs = res := HS
        rw [← hs, splitF_stop (by omega)]
      go_wp2
      exact bodyPost_ret (v := .tuple #[.slice kA ks.length kc, .slice bA bs.length bc, .int .i64 (e : Int), .int .i64 0]) (by simp [results, go_sem]) rfl ⟨_, _, rfl, hbods, hb⟩
end Go.Proofs.YthepokgkfaocmaaGreatDoor

/-
  The walks of num.Unlist (of no numbers) and of the reader's take.
-/
namespace Go.Proofs.YthepokgkfaocmaaGreatDoor
open Go.RowKit

theorem put0 : Pn.put 0 = [0] := by decide

set_option maxRecDepth 100000 in
set_option maxHeartbeats 1000000 in
theorem unlist_none (A : Option Addr) (N c : Nat) (r : List UInt8) (m : Nat) (w : World) (hN : N ≤ 1000000000) (hm : m ≤ 1000) (hr : Row w.heap.size w A N 1 (bts (Pn.put 0 ++ r))) :
    Calls Tryz.prog 127 #[.slice A N c, .int .i64 (m : Int)] w fun e w' => e = .returned (.tuple #[.slice none 0 0, .int .i64 1, .int .i64 0]) ∧ w = w' := by
  have ht := take_any A N c (Pn.put 0 ++ r) w (by omega) hr
  rw [Pn.take_put 0 r (by decide)] at ht
  have e1 : (Pn.put 0).length = 1 := by decide
  simp only [e1] at ht
  have hmax : max (m : Int) 0 = (m : Int) := by omega
  go_enter Tryz.func127, Tryz.ntmps127
  go_wp2_with fail
  refine ht.mono ?_
  rintro e w1 ⟨rfl, rfl⟩
  clear ht
  go_wp2
  go_loop [8, 10, 31] (fun a b x => a = .int .i64 1 ∧ b = .slice none 0 0 ∧ x = .int .u64 0) (fun _ _ _ => 0)
  case atStart => exact ⟨rfl, rfl, rfl⟩
  case round =>
    obtain ⟨rfl, rfl, rfl⟩ := hrel
    go_wp2
    exact bodyPost_ret (v := .tuple #[.slice none 0 0, .int .i64 1, .int .i64 0]) (by simp [results, go_sem]) rfl ⟨rfl, rfl⟩

set_option maxRecDepth 100000 in
set_option maxHeartbeats 1000000 in
/-- The reader takes a number that stands there and is not above the most. -/
theorem rtake_any (R : Nat) (A : Option Addr) (N c : Nat) (n most : Nat) (r : List UInt8) (w : World) (hN : N ≤ 1000000000) (hNc : N ≤ c) (hn : n ≤ most) (hm : most < 18446744073709551616)
    (h0 : w.cell? ⟨R, 0, none⟩ = some (.slice A N c)) (h1 : w.cell? ⟨R, 1, none⟩ = some (.bool true)) (hf : w.frozen? ⟨R, 0, none⟩ = false) (hr : Row w.heap.size w A N 1 (bts (Pn.put n ++ r))) :
    Calls Tryz.prog 128 #[.pointer (some ⟨R, 0, none⟩), .int .u64 (most : Int)] w fun e w' => ∃ A' N' c', e = .returned (.int .u64 (n : Int)) ∧ N' ≤ c' ∧ c' ≤ c ∧ N' ≤ N ∧ Row w.heap.size w A' N' 1 (bts r) ∧ w' = w.setCell ⟨R, 0, none⟩ (.slice A' N' c') := by
  have ht := take_any A N c (Pn.put n ++ r) w (by omega) hr
  rw [Pn.take_put n r (by omega)] at ht
  obtain ⟨s, hs⟩ : ∃ s, (Pn.put n).length = s := ⟨_, rfl⟩
  have hs1 := (Pn.put_len n).1
  have hln := hr.btlen
  have hsN : s ≤ N := by rw [List.length_append] at hln; omega
  have hcut : ∀ A', (s < N → A' = A.map (·.add s)) → Row w.heap.size w A' (N - s) 1 (bts r) := by
    intro A' hA
    have h := hr.cut (A' := A') hsN (Nat.le_refl N) (fun hlt => by rw [Nat.mul_one]; exact hA hlt)
    rw [Nat.mul_one, Nat.mul_one, ← bts_drop, ← bts_take, ← hs, List.drop_left] at h
    rwa [List.take_of_length_le (by rw [List.length_append] at hln; omega), hs] at h
  have hn' : ((most : Int) < (n : Int)) = False := by simp; omega
  rw [hs] at ht
  go_enter Tryz.func128, Tryz.ntmps128
  go_wp2_with fail
  refine ht.mono ?_
  rintro e w1 ⟨rfl, rfl⟩
  clear ht
  obtain ⟨A', hA'⟩ : ∃ A', (if c = s then A else Option.map (fun x => x.add s) A) = A' := ⟨_, rfl⟩
  have hrow := hcut A' (fun hlt => by rw [← hA', if_neg (by omega)])
  go_wp2
  go_ret
  exact ⟨A', N - s, c - s, rfl, by omega, by omega, by omega, hrow, rfl⟩
end Go.Proofs.YthepokgkfaocmaaGreatDoor

/-
  The walks of edit's small words: meta, isNum, and searches in slices of nothing.
-/
namespace Go.Proofs.YthepokgkfaocmaaGreatDoor
open Go.RowKit

def bigs (ns : List Nat) : Bool := ns.any fun n => decide (281474976710656 < n)
theorem big_any (n : Nat) (w : World) : Calls Tryz.prog 96 #[.int .u64 (n : Int)] w fun e w' => e = .returned (.bool (decide ((281474976710656 : Int) < (n : Int)))) ∧ w = w' := by
  go_enter Tryz.func96, Tryz.ntmps96
  go_wp2
  go_ret
  exact ⟨rfl, rfl⟩

theorem bigs_take {ns : List Nat} {k : Nat} (hl : k < ns.length) : bigs (ns.take (k + 1)) = (bigs (ns.take k) || decide (281474976710656 < ns[k])) := by
  have h := (List.take_append_getElem hl).symm
  unfold bigs
  rw [h, List.any_append]
  simp
theorem bigs_of {ns : List Nat} {k : Nat} (hl : k < ns.length) (h : 281474976710656 < ns[k]) : bigs ns = true := by
  unfold bigs
  rw [List.any_eq_true]
  exact ⟨ns[k], List.getElem_mem hl, by simpa using h⟩

set_option maxRecDepth 100000 in
theorem bigs_idx (A : Option Addr) (n c : Nat) (ns : List Nat) (w : World) (hn : n ≤ 1000) (hr : Row w.heap.size w A n 1 (u64v ns)) :
    Calls Tryz.prog 119 #[.slice A n c, .func (.func 96) #[] #[]] w fun e w' => (∃ i : Int, e = .returned (.int .i64 i) ∧ decide (0 ≤ i) = bigs ns) ∧ w = w' := by
  have hnn := hr.unlen
  go_enter Tryz.func119, Tryz.ntmps119
  go_wp2
  go_loop [8] (fun i => ∃ k : Nat, k ≤ n ∧ i = .int .i64 (k : Int) ∧ Hid (bigs (ns.take k) = false)) (fun i => n - (intOf i).toNat)
  case atStart => exact ⟨0, Nat.zero_le _, rfl, Lib.hid rfl⟩
  case round =>
    obtain ⟨k, hk, rfl, hb⟩ := hrel
    by_cases hlt : k < n
    · obtain ⟨a, hl, rfl, _, hc⟩ := hr.un hlt
      have ht := bigs_take hl
      have hof := bigs_of hl
      generalize ns[k] = x at *
      have HT := Lib.hid ht
      clear ht
      by_cases hx : 281474976710656 < x
      · have HO := Lib.hid (hof hx)
        have hx' : (281474976710656 : Int) < (x : Int) := by omega
        clear hof
        go_wp2_with fail
        refine (big_any x w).mono ?_
        rintro e w1 ⟨rfl, rfl⟩
        go_wp2
        go_ret
        exact ⟨⟨k, rfl, by have h : bigs ns = true := HO; rw [h]; simp⟩, rfl⟩
      · have hx' : ((281474976710656 : Int) < (x : Int)) = False := by simp; omega
        clear hof
        go_wp2_with fail
        refine (big_any x w).mono ?_
        rintro e w1 ⟨rfl, rfl⟩
        go_wp2
        go_round
        case rel =>
          refine ⟨k + 1, by omega, by go_num, Lib.hid ?_⟩
          have ht : bigs (ns.take (k + 1)) = (bigs (ns.take k) || decide (281474976710656 < x)) := HT
          have hb' : bigs (ns.take k) = false := hb
          rw [ht, hb']
          simpa using hx
        case measure => simp [intOf]; omega
    · have hall : bigs ns = false := by
        have hb' : bigs (ns.take k) = false := hb
        rwa [List.take_of_length_le (by omega)] at hb'
      have HA := Lib.hid hall
      clear hall
      go_wp2
      go_ret
      exact ⟨⟨-1, rfl, by have h : bigs ns = false := HA; rw [h]; rfl⟩, rfl⟩
theorem bigs_has (A : Option Addr) (n c : Nat) (ns : List Nat) (w : World) (hn : n ≤ 1000) (hr : Row w.heap.size w A n 1 (u64v ns)) :
    Calls Tryz.prog 95 #[.slice A n c, .func (.func 96) #[] #[]] w fun e w' => e = .returned (.bool (bigs ns)) ∧ w = w' := by
  go_enter Tryz.func95, Tryz.ntmps95
  go_wp2_with fail
  refine (bigs_idx A n c ns w hn hr).mono ?_
  rintro e w' ⟨⟨i, rfl, hi⟩, rfl⟩
  have HI := Lib.hid hi
  clear hi
  go_wp2
  go_ret
  refine ⟨?_, rfl⟩
  have hi : decide (0 ≤ i) = bigs ns := HI
  rw [← hi]
  rfl

theorem ints_idx (A : Option Addr) (c : Nat) (F : Value) (w : World) : Calls Tryz.prog 122 #[.slice A 0 c, F] w fun e w' => e = .returned (.int .i64 (-1)) ∧ w = w' := by
  go_enter Tryz.func122, Tryz.ntmps122
  go_wp2
  go_loop [8] (fun i => i = .int .i64 0) (fun _ => 0)
  case atStart => rfl
  case round =>
    obtain rfl := hrel
    go_wp2
    go_ret
    exact ⟨rfl, rfl⟩
theorem ints_none (A : Option Addr) (c : Nat) (F : Value) (w : World) : Calls Tryz.prog 99 #[.slice A 0 c, F] w fun e w' => e = .returned (.bool false) ∧ w = w' := by
  go_enter Tryz.func99, Tryz.ntmps99
  go_wp2_with fail
  refine (ints_idx A c F w).mono ?_
  rintro e w' ⟨rfl, rfl⟩
  go_wp2
  go_ret
  exact ⟨rfl, rfl⟩

theorem files_idx (A : Option Addr) (c : Nat) (F : Value) (w : World) : Calls Tryz.prog 74 #[.slice A 0 c, F] w fun e w' => e = .returned (.int .i64 (-1)) ∧ w = w' := by
  go_enter Tryz.func74, Tryz.ntmps74
  go_wp2
  go_loop [8] (fun i => i = .int .i64 0) (fun _ => 0)
  case atStart => rfl
  case round =>
    obtain rfl := hrel
    go_wp2
    go_ret
    exact ⟨rfl, rfl⟩
theorem files_none (A : Option Addr) (c : Nat) (F : Value) (w : World) : Calls Tryz.prog 64 #[.slice A 0 c, F] w fun e w' => e = .returned (.bool false) ∧ w = w' := by
  go_enter Tryz.func64, Tryz.ntmps64
  go_wp2_with fail
  refine (files_idx A c F w).mono ?_
  rintro e w' ⟨rfl, rfl⟩
  go_wp2
  go_ret
  exact ⟨rfl, rfl⟩
set_option maxRecDepth 100000 in
theorem meta_any (A : Option Addr) (n c : Nat) (ns : List Nat) (w : World) (hn : n ≤ 1000) (hr : Row w.heap.size w A n 1 (u64v ns)) :
    Calls Tryz.prog 62 #[.slice A n c] w fun e w' => e = .returned (.bool (!bigs ns)) ∧ w = w' := by
  go_enter Tryz.func62, Tryz.ntmps62
  go_wp2_with fail
  refine (bigs_has A n c ns w hn hr).mono ?_
  rintro e w' ⟨rfl, rfl⟩
  go_wp2
  go_ret
  exact ⟨rfl, rfl⟩
end Go.Proofs.YthepokgkfaocmaaGreatDoor

/-
  The walks of edit.may and edit.Put, for changes that speak of no files.
-/
namespace Go.Proofs.YthepokgkfaocmaaGreatDoor
open Go.RowKit

theorem base_add (g t : Nat) : (⟨g, 0, none⟩ : Addr).add t = ⟨g, t, none⟩ := by
  unfold Addr.add
  split
  · subst_vars; rfl
  · simp
/-- A change that speaks of no files, as a value. -/
def edV (g f c a l : Int) : Value := .agg #[.slice none 0 0, .slice none 0 0, .int .i64 g, .int .u64 f, .int .u64 c, .int .u64 a, .int .u64 l]
theorem u64_row (w : World) (e : TypeId) (cs : Array Value) (ns : List Nat) (n : Nat) (h : cs.toList = u64v ns) (hn : ns.length = n) : Row (w.alloc (.cells cs e)).heap.size (w.alloc (.cells cs e)) (some ⟨w.heap.size, 0, none⟩) n 1 (u64v ns) := by
  have h1 := (Row.new w cs e (n := n) (size := 1) (by rw [← Array.length_toList, h]; simp [u64v, hn])).up (B' := (w.alloc (.cells cs e)).heap.size) (by simp)
  rwa [h] at h1


set_option maxRecDepth 100000 in
set_option maxHeartbeats 1000000 in
theorem may_bare (g f c a l : Nat) (w : World) (hg : g ≤ 1073741824) (hb : bigs [f, c, a, l] = false) : Calls Tryz.prog 72 #[edV g f c a l] w fun e w' => e = .returned (.bool true) ∧ Below w.heap.size w w' := by
  unfold edV
  have hg' : ((g : Int) ≤ 1073741824) := by omega
  have HB := Lib.hid hb
  clear hb
  go_enter Tryz.func72, Tryz.ntmps72
  go_wp2_with fail
  have hrow := u64_row (w.alloc (.cells #[.slice none 0 0, .slice none 0 0, .int .i64 (g : Int), .int .u64 (f : Int), .int .u64 (c : Int), .int .u64 (a : Int), .int .u64 (l : Int)] 39)) 29 #[.int .u64 (f : Int), .int .u64 (c : Int), .int .u64 (a : Int), .int .u64 (l : Int)] [f, c, a, l] 4 rfl rfl
  have hmeta := meta_any _ 4 4 [f, c, a, l] _ (by omega) hrow
  rw [show bigs [f, c, a, l] = false from HB] at hmeta
  simp only [World.size_alloc, Bool.not_false] at hmeta
  clear hrow
  refine hmeta.mono ?_
  rintro e w1 ⟨rfl, rfl⟩
  clear hmeta
  go_wp2_with fail
  refine (ints_none none 0 _ _).mono ?_
  rintro e w1 ⟨rfl, rfl⟩
  go_wp2_with fail
  refine (files_none none 0 _ _).mono ?_
  rintro e w1 ⟨rfl, rfl⟩
  go_wp2
  go_ret
  exact ⟨rfl, ((Below.refl _ _).alloc (Nat.le_refl _) _).alloc (by simp) _⟩

set_option maxRecDepth 100000 in
set_option maxHeartbeats 2000000 in
theorem eput_bare (A : Option Addr) (N c0 : Nat) (b : List UInt8) (g f c a l : Nat) (w : World) (hg : g ≤ 1073741824) (hb : bigs [f, c, a, l] = false) (hN : N ≤ 400000000) (hNc : N ≤ c0) (hc : c0 ≤ maxLen) (hr : Row w.heap.size w A N 1 (bts b))
    (h64 : f < 18446744073709551616 ∧ c < 18446744073709551616 ∧ a < 18446744073709551616 ∧ l < 18446744073709551616) :
    Calls Tryz.prog 43 #[.slice A N c0, edV g f c a l] w fun e w' => ∃ A' K c', e = .returned (.tuple #[.slice A' K c', .int .i64 0]) ∧
      w'.ownsRow w.heap.size 5 1 (.slice A' K c') K (bts (b ++ (Ed.rec_ ⟨[], [], g, f, c, a, l⟩))) ∧ K ≤ c' ∧ c' ≤ maxLen ∧ Below w.heap.size w w' := by
  have hmay := fun W => may_bare g f c a l W hg hb
  unfold edV at *
  have hgw : IntKind.u64.wrap (g : Int) = (g : Int) := by rw [IntKind.wrap_u64]; omega
  go_enter Tryz.func43, Tryz.ntmps43
  go_wp2_with fail
  refine (hmay _).mono ?_
  rintro e w1 ⟨rfl, hb1⟩
  clear hmay
  have hbw := later_ ((Below.refl w.heap.size w).alloc (Nat.le_refl _) _) hb1
  have hbox : w1.heap[w.heap.size]? = some (.cells #[.slice none 0 0, .slice none 0 0, .int .i64 (g : Int), .int .u64 (f : Int), .int .u64 (c : Int), .int .u64 (a : Int), .int .u64 (l : Int)] 39) := by
    rw [hb1.block _ (by simp)]
    exact heap_alloc_new _ _
  clear hb1
  have d0 : w1.cell? ⟨w.heap.size, 0, none⟩ = some (.slice none 0 0) := by rw [cell_of_row _ _ _ _ _ _ hbox]; rfl
  have d1 : w1.cell? ⟨w.heap.size, 1, none⟩ = some (.slice none 0 0) := by rw [cell_of_row _ _ _ _ _ _ hbox]; rfl
  have d2 : w1.cell? ⟨w.heap.size, 2, none⟩ = some (.int .i64 (g : Int)) := by rw [cell_of_row _ _ _ _ _ _ hbox]; rfl
  have d3 : w1.cell? ⟨w.heap.size, 3, none⟩ = some (.int .u64 (f : Int)) := by rw [cell_of_row _ _ _ _ _ _ hbox]; rfl
  have d4 : w1.cell? ⟨w.heap.size, 4, none⟩ = some (.int .u64 (c : Int)) := by rw [cell_of_row _ _ _ _ _ _ hbox]; rfl
  have d5 : w1.cell? ⟨w.heap.size, 5, none⟩ = some (.int .u64 (a : Int)) := by rw [cell_of_row _ _ _ _ _ _ hbox]; rfl
  have d6 : w1.cell? ⟨w.heap.size, 6, none⟩ = some (.int .u64 (l : Int)) := by rw [cell_of_row _ _ _ _ _ _ hbox]; rfl
  have hlt : w.heap.size < w1.heap.size := (Array.getElem?_eq_some_iff.1 hbox).1
  clear hbox
  go_wp2
  go_loopw [6, 20] (fun s x wr => s = .slice none 0 0 ∧ x = .int .i64 0 ∧ wr = w1) (fun _ _ _ => 0)
  case atStart => exact ⟨rfl, rfl, rfl⟩
  case round =>
    obtain ⟨rfl, rfl, rfl⟩ := hrel
    have HB := Lib.hid hb
    clear hb
    have hd1 : ∀ w2, Below wr.heap.size wr.drew w2 → w2.cell? ⟨w.heap.size, 1, none⟩ = some (.slice none 0 0) := fun w2 h => (h.cell (p := ⟨w.heap.size, 1, none⟩) hlt).trans d1
    have HD1 := Lib.hid hd1
    have hw0 : IntKind.u64.wrap 0 = 0 := by decide
    clear hd1
    go_upto_region 9 with (fail)
    go_cut [9] (fun s wx => ∃ A2 M2 c2, s = .slice A2 M2 c2 ∧ wx.ownsRow w.heap.size 5 1 (.slice A2 M2 c2) M2 (bts (Pn.list [] ++ Pn.put 0)) ∧ M2 ≤ c2 ∧ c2 ≤ maxLen ∧ Below wr.heap.size wr wx)
    case first =>
      go_region_with (first
        | (go_at_call 73; refine (list_any none 0 0 [] none 0 0 [] _ (by omega) (by omega) Row.nil_ Row.nil_ (by simp)).mono ?_; rintro e w2 ⟨A2, M2, c2, rfl, ho2, hM2, hc2, hb2⟩; have q1 := HD1 w2 hb2)
        | (go_at_call 69; refine (put_any _ _ _ ([] ++ Pn.list []) 0 (by decide) _ (by have h1 := ho2.1; rw [bts_length, show ([] ++ Pn.list [] : List UInt8).length = 1 from by decide] at h1; omega) (Row.own ho2)).mono ?_; rintro e w3 ⟨A3, c3, rfl, ho3, hc3, hm3, hb3⟩))
      all_goals
        go_wp2_with fail
        go_meet
        exact ⟨_, _, _, rfl, own_base ho3 (Nat.le_trans hbw.size hb2.size : w.heap.size ≤ w2.heap.size), hc3, hm3, ((Below.refl wr.heap.size wr).drew.trans hb2).trans (hb3.mono hb2.size)⟩
    case rest =>
      obtain ⟨A2, M2, c2, rfl, ho2, hM2, hc2, hb2⟩ := hcut
      have hML : M2 = 2 := by
        have h1 := ho2.1
        rw [bts_length, show (Pn.list [] ++ Pn.put 0).length = 2 from by decide] at h1
        omega
      subst hML
      replace d1 := (hb2.cell (p := ⟨w.heap.size, 1, none⟩) hlt).trans d1
      replace d2 := (hb2.cell (p := ⟨w.heap.size, 2, none⟩) hlt).trans d2
      replace d3 := (hb2.cell (p := ⟨w.heap.size, 3, none⟩) hlt).trans d3
      replace d4 := (hb2.cell (p := ⟨w.heap.size, 4, none⟩) hlt).trans d4
      replace d5 := (hb2.cell (p := ⟨w.heap.size, 5, none⟩) hlt).trans d5
      replace d6 := (hb2.cell (p := ⟨w.heap.size, 6, none⟩) hlt).trans d6
      have hbx := later_ hbw hb2
      go_wp2
      go_loopw [9, 40] (fun s x wr2 => s = .slice A2 2 c2 ∧ x = .int .i64 0 ∧ wr2 = wc) (fun _ _ _ => 0)
      case atStart => exact ⟨rfl, rfl, rfl⟩
      case round =>
        obtain ⟨rfl, rfl, rfl⟩ := hrel
        go_wp2
        have hb5 := hbx.alloc hbx.size (.cells #[.int .u64 (g : Int), .int .u64 (f : Int), .int .u64 (c : Int), .int .u64 (a : Int), .int .u64 (l : Int)] 29)
        have hrow := u64_row wr 29 #[.int .u64 (g : Int), .int .u64 (f : Int), .int .u64 (c : Int), .int .u64 (a : Int), .int .u64 (l : Int)] [g, f, c, a, l] 5 rfl rfl
        have ho5 := ho2.alloc (.cells #[.int .u64 (g : Int), .int .u64 (f : Int), .int .u64 (c : Int), .int .u64 (a : Int), .int .u64 (l : Int)] 29)
        clear d0 d1 d2 d3 d4 d5 d6 HD1 hb2 hbw hbx ho2 hw0
        change Code.wp _ _ _ _ (wr.alloc (.cells #[.int .u64 (g : Int), .int .u64 (f : Int), .int .u64 (c : Int), .int .u64 (a : Int), .int .u64 (l : Int)] 29))
        generalize wr.alloc (.cells #[.int .u64 (g : Int), .int .u64 (f : Int), .int .u64 (c : Int), .int .u64 (a : Int), .int .u64 (l : Int)] 29) = V at *
        generalize wr.heap.size = hp at *
        have hns : ∀ n ∈ [g, f, c, a, l], n < 18446744073709551616 := by
          intro n hn
          simp at hn
          omega
        have hfin : Pn.list [] ++ Pn.put 0 ++ [g, f, c, a, l].flatMap Pn.put = Ed.bytes ⟨[], [], g, f, c, a, l⟩ := by simp [Ed.bytes]
        have hbl := Ed.bytes_len ⟨[], [], g, f, c, a, l⟩ (by
          have hb' : bigs [f, c, a, l] = false := HB
          simp [bigs] at hb'
          simp [Ed.may, four4]
          omega)
        have hnl : [g, f, c, a, l].length = 5 := rfl
        have HN := Lib.hid hns
        have HF := Lib.hid hfin
        have HL := Lib.hid hbl
        have HNL := Lib.hid hnl
        generalize hnsd : [g, f, c, a, l] = ns at *
        clear hns hfin hbl hnl hgw HB h64 hg
        have HD := Lib.hid hnsd
        clear hnsd
        go_loopw [9, 67] (fun s x wr3 => ∃ (k : Nat) (A' : Option Addr) (M c' : Nat), k ≤ 5 ∧ s = .slice A' M c' ∧ x = .int .i64 (k : Int) ∧ M ≤ 2 + 10 * k ∧ wr3.ownsRow w.heap.size 5 1 (.slice A' M c') M (bts (Pn.list [] ++ Pn.put 0 ++ (ns.take k).flatMap Pn.put)) ∧ M ≤ c' ∧ c' ≤ maxLen ∧ Below V.heap.size V wr3) (fun _ x _ => 5 - (intOf x).toNat)
        case atStart => exact ⟨0, A2, 2, c2, by omega, rfl, rfl, by omega, by simpa using ho5, hM2, hc2, Below.refl _ _⟩
        case round =>
          obtain ⟨k, A', M, c', hk, rfl, rfl, hM, hown, hMc, hcm, hbV⟩ := hrel
          by_cases hlt2 : k < 5
          · obtain ⟨aa, hl, he, hab, hc⟩ := (hrow.below hbV).un hlt2
            injection he with he
            subst he
            have hns : ∀ n ∈ ns, n < 18446744073709551616 := HN
            have hxl := hns ns[k] (List.getElem_mem hl)
            have htk : ns.take (k + 1) = ns.take k ++ [ns[k]] := (List.take_append_getElem hl).symm
            generalize ns[k] = x at *
            have HT := Lib.hid htk
            clear htk hns
            rw [base_add] at hc
            go_wp2_with fail
            refine (put_any A' M c' _ x hxl wr (by omega) (Row.own hown)).mono ?_
            rintro e w2 ⟨A3, c3, rfl, ho3, hc3, hm3, hb3⟩
            have hpl := (Pn.put_len x).2
            have ho3' := own_base ho3 (Nat.le_trans hb5.size hbV.size)
            have HPL := Lib.hid hpl
            clear hpl ho3
            go_wp2
            go_roundw
            case rel =>
              refine ⟨k + 1, A3, M + (Pn.put x).length, c3, by omega, rfl, by go_num, by have h : (Pn.put x).length ≤ 10 := HPL; omega, ?_, hc3, hm3, later_ hbV hb3⟩
              have ht : ns.take (k + 1) = ns.take k ++ [x] := HT
              rw [ht]
              simpa [List.append_assoc] using ho3'
            case measure => simp [intOf]; omega
          · obtain rfl : k = 5 := by omega
            have hfin : Pn.list [] ++ Pn.put 0 ++ (ns.take 5).flatMap Pn.put = Ed.bytes ⟨[], [], g, f, c, a, l⟩ := by
              have h1 : ns.length = 5 := HNL
              have h2 : Pn.list [] ++ Pn.put 0 ++ ns.flatMap Pn.put = Ed.bytes ⟨[], [], g, f, c, a, l⟩ := HF
              rw [List.take_of_length_le (by omega)]
              exact h2
            rw [hfin] at hown
            have hbw := hb5.trans (hbV.mono hb5.size)
            clear hfin hrow ho5 hbV hb5
            have hq := Row.own hown
            clear hown
            go_wp2_with fail
            refine (fput_any A N c0 b 6 A' M c' _ wr (by omega) hNc hc ((hr.below hbw).up hbw.size) (by decide) (by decide) (by omega) hMc hcm hq).mono ?_
            rintro e w2 ⟨A3, K, c3, rfl, ho3, hc3, hm3, hb3⟩
            have ho3' := own_base ho3 hbw.size
            have hbz := later_ hbw hb3
            clear ho3 hb3
            go_wp2
            exact bodyPost_ret (v := .tuple #[.slice A3 K c3, .int .i64 0]) (by simp [results, go_sem]) rfl ⟨A3, K, c3, rfl, ho3', hc3, hm3, hbz⟩
end Go.Proofs.YthepokgkfaocmaaGreatDoor

/-
  The walks of edit.Ok, man.own, edit.Whole and edit.Apply, for Views and changes that speak of no files.
-/
namespace Go.Proofs.YthepokgkfaocmaaGreatDoor
open Go.RowKit

/-- A View of no files, as a value. -/
def vwV (g f c a l : Int) : Value := .agg #[.int .i64 g, .slice none 0 0, .int .u64 f, .int .u64 c, .int .u64 a, .int .u64 l]

theorem isnum_any (n : Int) (w : World) (h1 : 1 ≤ n) (h2 : n ≤ 1073741824) : Calls Tryz.prog 61 #[.int .i64 n] w fun e w' => e = .returned (.bool true) ∧ w = w' := by
  go_enter Tryz.func61, Tryz.ntmps61
  go_wp2
  go_ret
  exact ⟨rfl, rfl⟩
theorem clip_none (w : World) : Calls Tryz.prog 77 #[.slice none 0 0] w fun e w' => e = .returned (.slice none 0 0) ∧ w = w' := by
  go_enter Tryz.func77, Tryz.ntmps77
  go_wp2
  go_ret
  exact ⟨rfl, rfl⟩

set_option maxRecDepth 100000 in
set_option maxHeartbeats 1000000 in
theorem ok_bare (g : Int) (f c a l : Nat) (w : World) (h1 : 1 ≤ g) (h2 : g ≤ 1073741824) (hb : bigs [f, c, a, l] = false) : Calls Tryz.prog 38 #[vwV g f c a l] w fun e w' => e = .returned (.bool true) ∧ Below w.heap.size w w' := by
  unfold vwV
  have HB := Lib.hid hb
  clear hb
  go_enter Tryz.func38, Tryz.ntmps38
  go_wp2_with fail
  refine (isnum_any g _ h1 h2).mono ?_
  rintro e w1 ⟨rfl, rfl⟩
  go_wp2_with fail
  have hrow := u64_row (w.alloc (.cells #[.int .i64 g, .slice none 0 0, .int .u64 (f : Int), .int .u64 (c : Int), .int .u64 (a : Int), .int .u64 (l : Int)] 31)) 29 #[.int .u64 (f : Int), .int .u64 (c : Int), .int .u64 (a : Int), .int .u64 (l : Int)] [f, c, a, l] 4 rfl rfl
  have hmeta := meta_any _ 4 4 [f, c, a, l] _ (by omega) hrow
  rw [show bigs [f, c, a, l] = false from HB] at hmeta
  simp only [World.size_alloc, Bool.not_false] at hmeta
  clear hrow
  refine hmeta.mono ?_
  rintro e w1 ⟨rfl, rfl⟩
  clear hmeta
  go_wp2
  go_loop [31] (fun i => i = .int .i64 0) (fun _ => 0)
  case atStart => rfl
  case round =>
    obtain rfl := hrel
    go_wp2
    go_ret
    exact ⟨rfl, ((Below.refl _ _).alloc (Nat.le_refl _) _).alloc (by simp) _⟩

set_option maxRecDepth 100000 in
theorem own_bare (g f c a l : Int) (w : World) : Calls Tryz.prog 39 #[vwV g f c a l] w fun e w' => e = .returned (vwV g f c a l) ∧ Below w.heap.size w w' := by
  unfold vwV
  go_enter Tryz.func39, Tryz.ntmps39
  go_wp2
  exact bodyPost_ret (v := .agg #[.int .i64 g, .slice none 0 0, .int .u64 f, .int .u64 c, .int .u64 a, .int .u64 l]) (by simp [results, go_sem]) rfl ⟨rfl, ((Below.refl _ _).alloc (Nat.le_refl _) _).alloc (by simp) _⟩
set_option maxRecDepth 100000 in
theorem whole_bare (g f c a l : Int) (w : World) : Calls Tryz.prog 66 #[vwV g f c a l] w fun e w' => e = .returned (edV g f c a l) ∧ Below w.heap.size w w' := by
  unfold vwV edV
  go_enter Tryz.func66, Tryz.ntmps66
  go_wp2_with fail
  change Code.wp _ _ _ _ (World.alloc (World.alloc w _) _)
  have hb := ((Below.refl w.heap.size w).alloc (Nat.le_refl _) (.cells #[.int .i64 g, .slice none 0 0, .int .u64 f, .int .u64 c, .int .u64 a, .int .u64 l] 31)).alloc (by simp) (.cells #[.slice none 0 0, .slice none 0 0, .int .i64 0, .int .u64 0, .int .u64 0, .int .u64 0, .int .u64 0] 39)
  have hbox : ((w.alloc (.cells #[.int .i64 g, .slice none 0 0, .int .u64 f, .int .u64 c, .int .u64 a, .int .u64 l] 31)).alloc (.cells #[.slice none 0 0, .slice none 0 0, .int .i64 0, .int .u64 0, .int .u64 0, .int .u64 0, .int .u64 0] 39)).heap[w.heap.size]? = some (.cells #[.int .i64 g, .slice none 0 0, .int .u64 f, .int .u64 c, .int .u64 a, .int .u64 l] 31) := by
    rw [Below.heap_alloc _ _ _ (by simp)]
    exact heap_alloc_new _ _
  have hout : ((w.alloc (.cells #[.int .i64 g, .slice none 0 0, .int .u64 f, .int .u64 c, .int .u64 a, .int .u64 l] 31)).alloc (.cells #[.slice none 0 0, .slice none 0 0, .int .i64 0, .int .u64 0, .int .u64 0, .int .u64 0, .int .u64 0] 39)).heap[w.heap.size + 1]? = some (.cells #[.slice none 0 0, .slice none 0 0, .int .i64 0, .int .u64 0, .int .u64 0, .int .u64 0, .int .u64 0] 39) := by
    have h := heap_alloc_new (w.alloc (.cells #[.int .i64 g, .slice none 0 0, .int .u64 f, .int .u64 c, .int .u64 a, .int .u64 l] 31)) (.cells #[.slice none 0 0, .slice none 0 0, .int .i64 0, .int .u64 0, .int .u64 0, .int .u64 0, .int .u64 0] 39)
    simpa using h
  generalize (World.alloc (World.alloc w (.cells #[.int .i64 g, .slice none 0 0, .int .u64 f, .int .u64 c, .int .u64 a, .int .u64 l] 31)) (.cells #[.slice none 0 0, .slice none 0 0, .int .i64 0, .int .u64 0, .int .u64 0, .int .u64 0, .int .u64 0] 39)) = V at *
  have d0 : V.cell? ⟨w.heap.size, 0, none⟩ = some (.int .i64 g) := by rw [cell_of_row _ _ _ _ _ _ hbox]; rfl
  have d1 : V.cell? ⟨w.heap.size, 1, none⟩ = some (.slice none 0 0) := by rw [cell_of_row _ _ _ _ _ _ hbox]; rfl
  have d2 : V.cell? ⟨w.heap.size, 2, none⟩ = some (.int .u64 f) := by rw [cell_of_row _ _ _ _ _ _ hbox]; rfl
  have d3 : V.cell? ⟨w.heap.size, 3, none⟩ = some (.int .u64 c) := by rw [cell_of_row _ _ _ _ _ _ hbox]; rfl
  have d4 : V.cell? ⟨w.heap.size, 4, none⟩ = some (.int .u64 a) := by rw [cell_of_row _ _ _ _ _ _ hbox]; rfl
  have d5 : V.cell? ⟨w.heap.size, 5, none⟩ = some (.int .u64 l) := by rw [cell_of_row _ _ _ _ _ _ hbox]; rfl
  have q0 : V.cell? ⟨w.heap.size + 1, 0, none⟩ = some (.slice none 0 0) := by rw [cell_of_row _ _ _ _ _ _ hout]; rfl
  have z0 : V.frozen? ⟨w.heap.size + 1, 0, none⟩ = false := by rw [frozen_of_row _ _ _ _ _ hout]
  have q1 : V.cell? ⟨w.heap.size + 1, 1, none⟩ = some (.slice none 0 0) := by rw [cell_of_row _ _ _ _ _ _ hout]; rfl
  have z1 : V.frozen? ⟨w.heap.size + 1, 1, none⟩ = false := by rw [frozen_of_row _ _ _ _ _ hout]
  have q2 : V.cell? ⟨w.heap.size + 1, 2, none⟩ = some (.int .i64 0) := by rw [cell_of_row _ _ _ _ _ _ hout]; rfl
  have z2 : V.frozen? ⟨w.heap.size + 1, 2, none⟩ = false := by rw [frozen_of_row _ _ _ _ _ hout]
  have q3 : V.cell? ⟨w.heap.size + 1, 3, none⟩ = some (.int .u64 0) := by rw [cell_of_row _ _ _ _ _ _ hout]; rfl
  have z3 : V.frozen? ⟨w.heap.size + 1, 3, none⟩ = false := by rw [frozen_of_row _ _ _ _ _ hout]
  have q4 : V.cell? ⟨w.heap.size + 1, 4, none⟩ = some (.int .u64 0) := by rw [cell_of_row _ _ _ _ _ _ hout]; rfl
  have z4 : V.frozen? ⟨w.heap.size + 1, 4, none⟩ = false := by rw [frozen_of_row _ _ _ _ _ hout]
  have q5 : V.cell? ⟨w.heap.size + 1, 5, none⟩ = some (.int .u64 0) := by rw [cell_of_row _ _ _ _ _ _ hout]; rfl
  have z5 : V.frozen? ⟨w.heap.size + 1, 5, none⟩ = false := by rw [frozen_of_row _ _ _ _ _ hout]
  have q6 : V.cell? ⟨w.heap.size + 1, 6, none⟩ = some (.int .u64 0) := by rw [cell_of_row _ _ _ _ _ _ hout]; rfl
  have z6 : V.frozen? ⟨w.heap.size + 1, 6, none⟩ = false := by rw [frozen_of_row _ _ _ _ _ hout]
  clear hbox hout
  go_still_tail 14, (by kernel_rfl)
  change wpList _ _ _ _ _ (World.drew V)
  go_wp2
  refine bodyPost_ret (v := .agg #[.slice none 0 0, .slice none 0 0, .int .i64 g, .int .u64 f, .int .u64 c, .int .u64 a, .int .u64 l]) (by simp [results, go_sem, *]) rfl ⟨rfl, ?_⟩
  exact below_drew (((((((hb.setCell (by simp) _).setCell (by simp) _).setCell (by simp) _).setCell (by simp) _).setCell (by simp) _).setCell (by simp) _).setCell (by simp) _)
end Go.Proofs.YthepokgkfaocmaaGreatDoor

/-
  Words for memory: a block that is a struct's (BoxO), its cells, its change, and how it is kept.
-/
namespace Go.Proofs.YthepokgkfaocmaaGreatDoor
open Go Go.RowKit

/-- Block g is a struct (or a variable) of type e with the cells xs. -/
def BoxO (w : World) (e : TypeId) (g : Nat) (xs : List Value) : Prop := w.heap[g]? = some (.cells xs.toArray e (0, 0))
variable {w w' : World} {e : TypeId} {g : Nat} {xs : List Value} {F : List Nat}
theorem BoxO.cell (h : BoxO w e g xs) (j : Nat) : w.cell? ⟨g, j, none⟩ = xs[j]? := by rw [cell_of_row _ _ _ _ _ _ h]; simp
theorem BoxO.free (h : BoxO w e g xs) (j : Nat) : w.frozen? ⟨g, j, none⟩ = false := frozen_of_row _ _ _ _ _ h
theorem BoxO.lt (h : BoxO w e g xs) : g < w.heap.size := (Array.getElem?_eq_some_iff.1 h).1
theorem BoxO.chg (h : BoxO w e g xs) (c : Chg F w w') (hg : g ∉ F) : BoxO w' e g xs := (c.block g h.lt hg).trans h
theorem BoxO.below (h : BoxO w e g xs) (hb : Below w.heap.size w w') : BoxO w' e g xs := (hb.block g h.lt).trans h
theorem BoxO.alloc (h : BoxO w e g xs) (o : Obj) : BoxO (w.alloc o) e g xs := h.below ((Below.refl _ _).alloc (Nat.le_refl _) o)
theorem BoxO.new (w : World) (cs : Array Value) (e : TypeId) : BoxO (w.alloc (.cells cs e)) e w.heap.size cs.toList := heap_alloc_new _ _
theorem BoxO.store (h : BoxO w e g xs) (j : Nat) (u : Value) : BoxO (w.setCell ⟨g, j, none⟩ u) e g (xs.set j u) := by
  have h1 : w.ownsRow 0 e xs.length (.slice (some ⟨g, 0, none⟩) 1 1) 1 xs := ⟨by simp, .inr ⟨g, 1, xs.toArray, rfl, Nat.zero_le _, h, Nat.le_refl _, by decide, by simp, by simp⟩⟩
  obtain ⟨h2, _⟩ := h1.stored j u
  rcases h2.2 with ⟨hv, _⟩ | ⟨g2, cap2, cur, hv, _, hg, _, _, hs, ht⟩
  · cases hv
  · injection hv with hv _ hc
    injection hv with hv
    injection hv with hv
    subst hv
    subst hc
    unfold BoxO
    have e1 : cur.toList = xs.set j u := by
      rw [← ht, List.take_of_length_le (by simp at hs ⊢; omega)]
    rw [hg, ← e1]
theorem BoxO.drewN (h : BoxO w e g xs) (n : Nat) : BoxO (w.drewN n) e g xs := h
theorem BoxO.drew (h : BoxO w e g xs) : BoxO w.drew e g xs := h
theorem chg_set (w : World) (p : Addr) (v : Value) : Chg [p.block] w (w.setCell p v) := (Chg.refl [p.block] w).setCell v (.inl (by simp))
end Go.Proofs.YthepokgkfaocmaaGreatDoor
