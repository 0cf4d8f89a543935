/-
  The walk of the law StampApart: it answers true, and changes nothing that was there.
-/
import Derived.Test.YtmfobogicdeokaaStampB
import Derived.Deep.LoopGhost
import Derived.Deep.DeepCutAuto
import Derived.Deep.CutBlock
namespace Go.Proofs.Ytmfobogicdeokaa
open Go.RowKit

theorem info_u64 : (Try.prog.info? 38).map (fun i => (i.zero, i.size, i.bytes)) = some (some (.int .u64 0), 1, 8) := by kernel_rfl

def u64s (l : List Nat) : List Value := l.map fun n : Nat => Value.int .u64 (n : Int)
theorem u64s_length (l : List Nat) : (u64s l).length = l.length := by simp [u64s]
theorem u64s_get (l : List Nat) (k : Nat) : (u64s l)[k]? = (l[k]?).map fun n : Nat => Value.int .u64 (n : Int) := by simp [u64s]
theorem u64s_append (a b : List Nat) : u64s (a ++ b) = u64s a ++ u64s b := by simp [u64s]
theorem u64s_one (l : List Nat) : ∀ u ∈ u64s l, u.oneCell' = true := by
  intro u hu
  simp only [u64s, List.mem_map] at hu
  obtain ⟨c, _, rfl⟩ := hu
  rfl

/-- Where the five clocks and the row of pointers to them lie. -/
structure Geo (w0 B1 G : Nat) (gs : Nat → Nat) : Prop where
  g0 : w0 ≤ G
  g1 : G < B1
  lo : ∀ i, i < 5 → w0 ≤ gs i
  hi : ∀ i, i < 5 → gs i < B1
  ne : ∀ i, i < 5 → gs i ≠ G
  inj : ∀ i j, i < 5 → j < 5 → i ≠ j → gs i ≠ gs j
/-- The five clocks, the row of pointers to them, the row of all versions. -/
structure Apt (B1 G : Nat) (gs ns : Nat → Nat) (v : Value) (all : List Nat) (w : World) : Prop where
  clk : ∀ i, i < 5 → Clk w (gs i) i (ns i) 1000
  arr : ∀ i, i < 5 → w.cell? ⟨G, i, none⟩ = some (.pointer (some ⟨gs i, 0, none⟩))
  own : w.ownsRow B1 38 1 v all.length (u64s all)
  size : B1 ≤ w.heap.size
def upd (f : Nat → Nat) (k x : Nat) : Nat → Nat := fun i => if i = k then x else f i
section
variable {w0 B1 G : Nat} {gs ns : Nat → Nat} {v : Value} {all : List Nat} {w w' : World}
theorem Apt.step (h : Apt B1 G gs ns v all w) (hg : Geo w0 B1 G gs) {k n : Nat} (hk : k < 5) (hc : Clk w' (gs k) k n 1000) (hw : w.grownBy w' (some (gs k))) : Apt B1 G gs (upd ns k n) v all w' := by
  refine ⟨fun i hi => ?_, fun i hi => ?_, ?_, Nat.le_trans h.size hw.size⟩
  · unfold upd
    by_cases e : i = k
    · subst e
      rw [if_pos rfl]
      exact hc
    · rw [if_neg e]
      exact (h.clk i hi).kept hw (fun e2 => hg.inj i k hi hk e (by injection e2))
  · rw [World.cell?_of_block (w := w) (hw.block G (Nat.lt_of_lt_of_le hg.g1 h.size) (fun e => hg.ne k hk (by injection e with e; exact e.symm)))]
    exact h.arr i hi
  · refine h.own.kept hw (.inr fun e => ?_)
    have := (h.own.lt _ e).1
    have := hg.hi k hk
    omega
theorem Apt.app (h : Apt B1 G gs ns v all w) (hg : Geo w0 B1 G gs) {v' : Value} {all' : List Nat} (ho : w'.ownsRow B1 38 1 v' all'.length (u64s all')) (hw : Below B1 w w') : Apt B1 G gs ns v' all' w' := by
  refine ⟨fun i hi => (h.clk i hi).below hw (hg.hi i hi), fun i hi => ?_, ho, Nat.le_trans h.size hw.size⟩
  rw [hw.cell (p := ⟨G, i, none⟩) hg.g1]
  exact h.arr i hi
end

/-- All that were told, were told by one of the five, no later than its counter. -/
def Told (ns : Nat → Nat) (all : List Nat) : Prop := ∀ v ∈ all, ∃ i c, i < 5 ∧ v = c * 8 + i ∧ c ≤ ns i
theorem Told.new {ns : Nat → Nat} {all : List Nat} (h : Told ns all) (k : Nat) (hk : k < 5) : ∀ v ∈ all, v ≠ (ns k + 1) * 8 + k := by
  intro v hv e
  obtain ⟨i, c, hi, hvc, hc⟩ := h v hv
  have : i = k := by omega
  subst this
  omega
theorem Told.upd_ {ns : Nat → Nat} {all : List Nat} (h : Told ns all) (k n : Nat) (hn : ns k ≤ n) : Told (upd ns k n) all := by
  intro v hv
  obtain ⟨i, c, hi, hvc, hc⟩ := h v hv
  refine ⟨i, c, hi, hvc, ?_⟩
  unfold upd
  split
  · subst_vars; omega
  · exact hc
theorem Told.snoc {ns : Nat → Nat} {all : List Nat} (h : Told ns all) (k : Nat) (hk : k < 5) : Told ns (all ++ [ns k * 8 + k]) := by
  intro v hv
  rcases List.mem_append.1 hv with h1 | h1
  · exact h v h1
  · obtain rfl := List.mem_singleton.1 h1
    exact ⟨k, ns k, hk, rfl, Nat.le_refl _⟩

set_option maxRecDepth 100000 in
set_option maxHeartbeats 2000000 in
theorem stampApart_walk (A : Option Addr) (n c : Nat) (xs : List Int) (w : World) (hm : c ≤ maxLen) (hr : Row w.heap.size w A n 1 (xs.map (Value.int .i64))) :
    Calls Try.prog 12 #[.slice A n c] w fun e w' => e = .returned (.bool true) ∧ Below w.heap.size w w' := by
  have hm' : c ≤ 9223372036854775807 := hm
  have hlen : xs.length = n := by have := hr.len; simpa using this
  obtain ⟨i0, hi0, hz0, hz1, hz2⟩ := info_parts info_u64
  go_enter Try.func12, Try.ntmps12
  go_upto_block 0 with (fail)
  go_cut [] (fun wx => ∃ gs : Nat → Nat, Geo w.heap.size wx.heap.size w.heap.size gs ∧ Apt wx.heap.size w.heap.size gs (fun _ => 0) (.slice none 0 0) [] wx ∧ Below w.heap.size w wx)
  case first =>
    go_wp2_with fail
    go_loopw [4] (fun i wr => ∃ (k : Nat) (gs : Nat → Nat) (cs : Array Value), k ≤ 5 ∧ i = .int .i64 (k : Int) ∧ wr.heap[w.heap.size]? = some (.cells cs 58 (0, 0)) ∧ cs.size = 5 ∧ (∀ j, j < k → cs[j]? = some (.pointer (some ⟨gs j, 0, none⟩)) ∧ Clk wr (gs j) j 0 1000 ∧ w.heap.size < gs j ∧ ∀ a, a < j → gs a < gs j) ∧ Below w.heap.size w wr) (fun i _ => 5 - (intOf i).toNat)
    case atStart => exact ⟨0, fun _ => 0, _, Nat.zero_le _, rfl, heap_alloc_new w _, rfl, fun j hj => absurd hj (by omega), (Below.refl _ _).alloc (Nat.le_refl _) _⟩
    case round =>
      obtain ⟨k, gs, cs, hk, rfl, hG, hcs, hall, hbel⟩ := hrel
      have hGlt : w.heap.size < wr.heap.size := (Array.getElem?_eq_some_iff.1 hG).1
      by_cases hlt : k < 5
      · have hk5 : (k : Int) < 5 := by omega
        go_wp2_with fail
        refine (new_ok k 0 _ (by omega) (by omega)).mono ?_
        rintro e w1 ⟨g, rfl, hg, hk1, hb1⟩
        go_wp2_with fail
        refine (renew_yes g k 0 0 1000 _ hk1 (by omega) (by omega)).mono ?_
        rintro e w2 ⟨rfl, hk2, hg2⟩
        have hw2 : Below wr.heap.size wr w2 := below_clk hb1 hg2 hb1.size hg
        have hG2 : w2.heap[w.heap.size]? = some (.cells cs 58 (0, 0)) := (hw2.block _ hGlt).trans hG
        have hfz : w2.frozen? ⟨w.heap.size, k, none⟩ = false := by simp [World.frozen?, hG2]
        have hco : w2.cell? ⟨w.heap.size, k, none⟩ = some (cs[k]'(by omega)) := by
          rw [cell_of_row w2 w.heap.size k _ _ _ hG2]
          exact Array.getElem?_eq_getElem _
        generalize cs[k]'(by omega) = old at hco
        have hbel2 : Below w.heap.size w w2 := hbel.trans (hw2.mono hbel.size)
        have HALL := Lib.hid hall
        clear hall hk1 hb1 hg2 hG
        go_wp2
        go_roundw
        case rel =>
          refine ⟨k + 1, upd gs k g, cs.setIfInBounds k (.pointer (some ⟨g, 0, none⟩)), by omega, by go_num, ?_, by simpa using hcs, fun j hj => ?_, hbel2.setCell (Nat.le_refl _) _⟩
          · simp [World.setCell, Array.getElem?_modify, hG2]
          · have hset : ∀ (j' : Nat) (nd nw ls : Nat), j' ≠ w.heap.size → Clk w2 j' nd nw ls → Clk (w2.setCell ⟨w.heap.size, k, none⟩ (.pointer (some ⟨g, 0, none⟩))) j' nd nw ls := fun j' nd nw ls hne h => (Below.heap_setCell w2 ⟨w.heap.size, k, none⟩ _ j' hne).trans h
            rcases Nat.lt_or_ge j k with h1 | h1
            · obtain ⟨e1, e2, e3, e4⟩ := HALL.out j h1
              have hne : j ≠ k := by omega
              refine ⟨?_, ?_, ?_, fun a ha => ?_⟩
              · rw [Array.getElem?_setIfInBounds_ne (by omega)]
                unfold upd
                rw [if_neg hne]
                exact e1
              · unfold upd
                rw [if_neg hne]
                exact hset _ _ _ _ (by omega) (e2.below hw2 e2.lt)
              · unfold upd
                rw [if_neg hne]
                exact e3
              · unfold upd
                rw [if_neg hne, if_neg (by omega)]
                exact e4 a ha
            · obtain rfl : j = k := by omega
              refine ⟨?_, ?_, ?_, fun a ha => ?_⟩
              · rw [Array.getElem?_setIfInBounds_self_of_lt (by omega)]
                unfold upd
                rw [if_pos rfl]
              · unfold upd
                rw [if_pos rfl]
                exact hset _ _ _ _ (by omega) hk2
              · unfold upd
                rw [if_pos rfl]
                omega
              · unfold upd
                rw [if_pos rfl, if_neg (by omega)]
                obtain ⟨_, e2, _, _⟩ := HALL.out a ha
                have := e2.lt
                omega
        case measure => simp [intOf]; omega
      · obtain rfl : k = 5 := by omega
        go_wp2
        go_meet
        case rel =>
          have hlt5 : ∀ i, i < 5 → gs i < wr.heap.size := fun i hi => (hall i hi).2.1.lt
          have hmono : ∀ i j, i < j → j < 5 → gs i < gs j := fun i j hij hj => (hall j hj).2.2.2 i hij
          refine ⟨gs, ⟨Nat.le_refl _, hGlt, fun i hi => Nat.le_of_lt (hall i hi).2.2.1, hlt5, fun i hi => by have := (hall i hi).2.2.1; omega, fun i j hi hj hne => ?_⟩, ⟨fun i hi => (hall i hi).2.1, fun i hi => ?_, World.ownsRow_nil _ _ _ _, Nat.le_refl _⟩, hbel⟩
          · rcases Nat.lt_or_gt_of_ne hne with h | h
            · have := hmono i j h hj; omega
            · have := hmono j i h hi; omega
          · rw [cell_of_row wr w.heap.size i _ _ _ hG]
            exact (hall i hi).1
  case rest =>
    obtain ⟨gs, hgeo, hapt, hbel⟩ := hcut
    generalize hB1 : wc.heap.size = B1 at hgeo hapt
    clear hB1
    go_wp2_with fail
    go_loopw [7, 8] (fun a i wr => ∃ (t : Nat) (Aa : Option Addr) (cc : Nat) (all : List Nat) (ns : Nat → Nat), t ≤ n ∧ t ≤ 100 ∧ i = .int .i64 (t : Int) ∧ a = .slice Aa t cc ∧ Apt B1 w.heap.size gs ns (.slice Aa t cc) all wr ∧ Told ns all ∧ (∀ k, k < 5 → ns k ≤ t) ∧ all.length = t ∧ Below w.heap.size w wr) (fun _ i _ => 100 - (intOf i).toNat)
    case atStart => exact ⟨0, none, 0, [], fun _ => 0, Nat.zero_le _, Nat.zero_le _, rfl, rfl, hapt, fun v hv => by simp at hv, fun _ _ => Nat.zero_le _, rfl, hbel⟩
    case round =>
      obtain ⟨t, Aa, cc, all, ns, ht1, ht2, rfl, rfl, ha, htold, hns, hal, hbel⟩ := hrel
      have HNS := Lib.hid hns
      have HTOLD := Lib.hid htold
      have HAL := Lib.hid hal
      clear hns htold hal hapt
      by_cases hlt : t < n ∧ t < 100
      · obtain ⟨hlt1, hlt2⟩ := hlt
        have hlt3 : (t : Int) < 100 := by omega
        obtain ⟨ad, val, rfl, _, hval, hcell⟩ := (hr.below hbel).at1 hlt1
        have hxl : t < xs.length := by omega
        rw [List.getElem?_map, List.getElem?_eq_getElem hxl, Option.map_some] at hval
        injection hval with hval
        subst hval
        generalize xs[t] = x at hcell
        obtain ⟨mx, hmx, hmx1⟩ := and_mask x 8 (by omega)
        rw [show ((2 ^ 8 - 1 : Nat) : Int) = 255 from rfl] at hmx
        rw [show (2 ^ 8 : Nat) = 256 from rfl] at hmx1
        obtain ⟨k, hk, hk5⟩ : ∃ k : Nat, (mx : Int) % 5 = (k : Int) ∧ k < 5 := ⟨mx % 5, by omega, by omega⟩
        obtain ⟨mb, hmb, hmb1⟩ := and_mask (x / 256) 1 (by omega)
        rw [show ((2 ^ 1 - 1 : Nat) : Int) = 1 from rfl] at hmb
        obtain ⟨my, hmy, _⟩ := and_mask (x / 512) 8 (by omega)
        rw [show ((2 ^ 8 - 1 : Nat) : Int) = 255 from rfl] at hmy
        go_upto_region 15 with (fail)
        simp only [hk]
        go_cut [64] (fun s wx => ∃ sb : Bool, s = .bool sb ∧ (sb = true → 0 < t) ∧ wr = wx)
        case first =>
          rcases Nat.eq_zero_or_pos t with h0 | h0
          · have h0' : ¬ (0 : Int) < (t : Int) := by omega
            have h0''' : ¬ 0 < t := by omega
            clear h0
            go_wp2_with fail
            go_meet
            case rel => exact ⟨false, rfl, (fun h => by cases h), rfl⟩
          · rcases (by omega : mb = 0 ∨ mb = 1) with h1 | h1
            · subst h1
              go_wp2_with fail
              go_meet
              case rel => exact ⟨false, rfl, (fun h => by cases h), rfl⟩
            · subst h1
              go_wp2_with fail
              go_meet
              case rel => exact ⟨true, rfl, (fun _ => by omega), rfl⟩
        case rest =>
        obtain ⟨sb, rfl, HSB, rfl⟩ := hcut
        go_upto_if 64 with (fail)
        go_cut [10] (fun s wx => ∃ (ns1 : Nat → Nat) (seen : Nat), s = .int .u64 (seen : Int) ∧ Apt B1 w.heap.size gs ns1 (.slice Aa t cc) all wx ∧ Told ns1 all ∧ (∀ k, k < 5 → ns1 k ≤ t) ∧ seen < (ns1 k + 1) * 8 + k ∧ Below w.heap.size w wx)
        case first =>
          cases sb
          · go_wp2_with fail
            go_meet
            case rel => exact ⟨ns, 0, rfl, ha, HTOLD.out, HNS.out, by omega, hbel⟩
          · have ht0 := HSB rfl
            clear HSB hmb hmb1
            obtain ⟨gv, capv, hAv, hgv1, hgv2⟩ := ha.own.form (by have := HAL.out; omega)
            injection hAv with hAv hAvl hAv2
            clear hAvl
            subst hAv
            subst hAv2
            obtain ⟨q, hq, hqt⟩ : ∃ q : Nat, (my : Int) % (t : Int) = (q : Int) ∧ q < t := ⟨my % t, by rw [Int.natCast_emod], Nat.mod_lt _ ht0⟩
            have hqa : q < all.length := by have := HAL.out; omega
            have hcell2 : wr.cell? ⟨gv, q, none⟩ = some (.int .u64 (all[q] : Int)) := by
              have h := ha.own
              rw [HAL.out] at h
              rw [h.cellAt q (by omega), u64s_get, List.getElem?_eq_getElem hqa, Option.map_some]
            have hmem : all[q] ∈ all := List.getElem_mem hqa
            generalize all[q] = seen at hcell2 hmem
            obtain ⟨si, sc, hsi, hsv, hsc⟩ := HTOLD.out seen hmem
            have hscb : sc ≤ t := Nat.le_trans hsc (HNS.out si hsi)
            have harr := ha.arr k hk5
            have ht0' : (0 : Int) < (t : Int) := by omega
            have HSV := Lib.hid hsv
            clear hsv
            go_wp2_with (go_at_call 28; refine stop_in ?_)
            refine stop_out ((see_any (gs k) k (ns k) 1000 seen _ (ha.clk k hk5) (by have := HSV.out; omega)).mono ?_)
            rintro e w1 ⟨rfl, hk1, hg1⟩
            go_wp2_with fail
            go_meet
            case rel =>
              have hns := HNS.out
              have hsv := HSV.out
              have hkk := hns k hk5
              have e8 : seen / 8 = sc := by omega
              rw [e8] at hk1
              have e9 : max (ns k) (min sc 1099511627776) = max (ns k) sc := by omega
              rw [e9] at hk1
              refine ⟨_, seen, rfl, ha.step hgeo hk5 hk1 hg1, HTOLD.out.upd_ k _ (Nat.le_max_left _ _), fun j hj => ?_, ?_, below_clk hbel hg1 hbel.size (hgeo.lo k hk5)⟩
              · unfold upd
                split
                · omega
                · exact hns j hj
              · unfold upd
                rw [if_pos rfl]
                omega
        case rest =>
          clear ha hbel HTOLD HNS hmb hmy hmx hcell HSB
          obtain ⟨ns1, seen, rfl, ha, htold, hns, hseen, hbel⟩ := hcut
          have harr := ha.arr k hk5
          have HNS := Lib.hid hns
          have HTOLD := Lib.hid htold
          have HSEEN := Lib.hid hseen
          clear hns htold hseen
          go_wp2_with fail
          refine (next_ok (gs k) k (ns1 k) 1000 _ (ha.clk k hk5) (by have := HNS.out k hk5; omega) (by have := HNS.out k hk5; omega) (by omega)).mono ?_
          rintro e w2 ⟨rfl, hk2, hg2⟩
          have ha2 := ha.step hgeo hk5 hk2 hg2
          have hbel2 := below_clk hbel hg2 hbel.size (hgeo.lo k hk5)
          have hnew := HTOLD.out.new k hk5
          have htold2 : Told (upd ns1 k (ns1 k + 1)) (all ++ [(ns1 k + 1) * 8 + k]) := by
            have h := (HTOLD.out.upd_ k (ns1 k + 1) (Nat.le_succ _)).snoc k hk5
            have e : upd ns1 k (ns1 k + 1) k = ns1 k + 1 := if_pos rfl
            rwa [e] at h
          have hns2 : ∀ j, j < 5 → upd ns1 k (ns1 k + 1) j ≤ t + 1 := by
            intro j hj
            have h1 := HNS.out j hj
            have h2 := HNS.out k hk5
            unfold upd
            split <;> omega
          have hvb : (ns1 k + 1) * 8 + k < 1000 := by have := HNS.out k hk5; omega
          have hv0 := HSEEN.out
          generalize hv : (ns1 k + 1) * 8 + k = V at *
          generalize hnn : upd ns1 k (ns1 k + 1) = ns2 at *
          have hv1 : ¬ (V : Int) ≤ (seen : Int) := by omega
          have HNEW := Lib.hid hnew
          have HT2 := Lib.hid htold2
          have HN2 := Lib.hid hns2
          clear hv hnn hv0 hnew htold2 hns2 HTOLD HNS HSEEN ha hk2 hg2 harr hbel
          go_wp2_with fail
          go_loop [13] (fun i => ∃ j : Nat, j ≤ t ∧ i = .int .i64 (j : Int)) (fun i => t - (intOf i).toNat)
          case atStart => exact ⟨0, Nat.zero_le _, rfl⟩
          case round =>
            obtain ⟨j, hj, rfl⟩ := hrel
            by_cases hjt : j < t
            · obtain ⟨gv, capv, hAv, hgv1, hgv2⟩ := ha2.own.form (by have := HAL.out; omega)
              injection hAv with hAv hAvl hAv2
              clear hAvl
              subst hAv
              subst hAv2
              have hja : j < all.length := by have := HAL.out; omega
              have hcell2 : w2.cell? ⟨gv, j, none⟩ = some (.int .u64 (all[j] : Int)) := by
                have h := ha2.own
                rw [HAL.out] at h
                rw [h.cellAt j (by omega), u64s_get, List.getElem?_eq_getElem hja, Option.map_some]
              have hne : ((all[j] : Int) == (V : Int)) = false := by
                rw [beq_eq_false_iff_ne]
                have := HNEW.out all[j] (List.getElem_mem hja)
                omega
              generalize all[j] = u at hcell2 hne
              go_wp2
              go_round
              case rel => exact ⟨j + 1, by omega, by go_num⟩
              case measure => simp [intOf]; omega
            · have hbox : Row (w2.heap.size + 1) (w2.alloc (.cells #[.int .u64 (V : Int)] 38)) (some ⟨w2.heap.size, 0, none⟩) 1 1 (u64s [V]) := Row.new w2 _ _ rfl
              go_wp2_with (at_builtin; refine stop_in ?_)
              refine stop_out (wpList_app rfl (.tmp 108) (.tmp 110) _ rfl B1 38 i0 _ 1 8 Try.underlying59 hi0 hz0 hz1 hz2 rfl (by omega) w2 ((Below.refl B1 _).alloc ha2.size _) (by have := ha2.size; simp; omega) (.slice Aa t cc) t (u64s all) rfl (by have h := ha2.own; rw [HAL.out] at h; exact h.alloc _) (w2.heap.size + 1) _ 1 1 (u64s [V]) rfl hbox (u64s_one _) (t + 1) (u64s (all ++ [V])) rfl (u64s_append _ _).symm (by unfold maxLen; omega) (by omega) ?_)
              intro A3 c3 w3 ho3 hb3 _ hc3 hm3
              go_wp2
              go_roundw
              case rel =>
                have hl3 : (all ++ [V]).length = t + 1 := by rw [List.length_append, HAL.out]; rfl
                refine ⟨t + 1, A3, c3, all ++ [V], ns2, by omega, by omega, by go_num, rfl, ha2.app hgeo (by rw [hl3]; exact ho3) hb3, HT2.out, HN2.out, hl3, hbel2.trans (hb3.mono ?_)⟩
                exact Nat.le_trans hgeo.g0 (Nat.le_of_lt hgeo.g1)
              case measure => simp [intOf]; omega
      · by_cases h1 : t < n
        · have h2 : ¬ (t : Int) < 100 := by omega
          go_wp2_with fail
          refine (awake7_any _).mono ?_
          rintro e w5 ⟨rfl, hb5⟩
          go_wp2
          go_ret
          exact ⟨rfl, hbel.trans (hb5.mono hbel.size)⟩
        · go_wp2_with fail
          refine (awake7_any _).mono ?_
          rintro e w5 ⟨rfl, hb5⟩
          go_wp2
          go_ret
          exact ⟨rfl, hbel.trans (hb5.mono hbel.size)⟩
end Go.Proofs.Ytmfobogicdeokaa
