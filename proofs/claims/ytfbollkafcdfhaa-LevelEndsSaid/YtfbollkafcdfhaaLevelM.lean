/-
  The walk of the document's answer: Pick.
-/
import Derived.Test.YtfbollkafcdfhaaLevelL
import Derived.Deep.RegionHeld3
namespace Go.Proofs.Ytfbollkafcdfhaa
open Go.RowKit

theorem info4_ : (Try.prog.info? 4).map (fun i => (i.zero, i.size, i.bytes)) = some (some (.bool false), 1, 1) := by kernel_rfl
/-- A row of marks. -/
def bls (f : Nat → Bool) (n : Nat) : List Value := (List.range n).map fun i => .bool (f i)
theorem bls_length (f : Nat → Bool) (n : Nat) : (bls f n).length = n := by simp [bls]
theorem bls_get (f : Nat → Bool) (n k : Nat) (h : k < n) : (bls f n)[k]? = some (.bool (f k)) := by simp [bls, h]
theorem bls_set (f : Nat → Bool) (n k : Nat) (b : Bool) : (bls f n).set k (.bool b) = bls (fun i => if i = k then b else f i) n := by
  apply List.ext_getElem?
  intro i
  rw [List.getElem?_set, bls_length]
  by_cases hi : k = i
  · subst hi
    by_cases hk : k < n
    · rw [if_pos rfl, if_pos hk, bls_get _ _ _ hk, if_pos rfl]
    · rw [if_pos rfl, if_neg hk, List.getElem?_eq_none (by rw [bls_length]; omega)]
  · rw [if_neg hi]
    by_cases hk : i < n
    · rw [bls_get _ _ _ hk, bls_get _ _ _ hk, if_neg (by omega)]
    · rw [List.getElem?_eq_none (by rw [bls_length]; omega), List.getElem?_eq_none (by rw [bls_length]; omega)]
theorem bls_congr {f g : Nat → Bool} {n : Nat} (h : ∀ i, i < n → f i = g i) : bls f n = bls g n := by
  unfold bls
  apply List.map_congr_left
  intro i hi
  rw [h i (List.mem_range.1 hi)]
theorem bls_false (n : Nat) : List.replicate n (Value.bool false) = bls (fun _ => false) n := by
  unfold bls
  apply List.ext_getElem?
  intro i
  simp [List.getElem?_replicate]
  split <;> simp [*]
/-- The marks that the call owns, in a block of their own. -/
def Marks (base P n : Nat) (f : Nat → Bool) (w : World) : Prop := w.ownsRow base 4 1 (.slice (some ⟨P, 0, none⟩) n n) n (bls f n)
theorem Row.setNe {B n size : Nat} {w : World} {A : Option Addr} {xs : List Value} (h : Row B w A n size xs) {p : Addr} (hne : ∀ a, A = some a → a.block ≠ p.block) (u : Value) : Row B (w.setCell p u) A n size xs :=
  ⟨h.len, fun j hj => let ⟨a, e, b, c⟩ := h.cell j hj; ⟨a, e, b, (World.cell?_setCell_other w p (a.add j) u (fun e2 => hne a e (by rw [e2, add_block]))).trans c⟩⟩
def firsts (hs : List Hv) (lv : Int) (k : Nat) : List Int := ((List.range k).filter (fromB hs lv)).map fun (i : Nat) => (i : Int)
theorem firsts_succ (hs : List Hv) (lv : Int) (k : Nat) : firsts hs lv (k + 1) = firsts hs lv k ++ if fromB hs lv k = true then [(k : Int)] else [] := by
  unfold firsts
  rw [List.range_succ, List.filter_append, List.map_append]
  congr 1
  cases h : fromB hs lv k <;> simp [h]
theorem firsts_le (hs : List Hv) (lv : Int) (k : Nat) : (firsts hs lv k).length ≤ k := by
  unfold firsts
  rw [List.length_map]
  exact Nat.le_trans (List.length_filter_le _ _) (by rw [List.length_range]; exact Nat.le_refl _)
/-- What the document's Pick hands back. -/
def RPickOf (hs : List Hv) (e : Ending) (w' : World) : Prop := match overs hs 3 with
  | [] => e = .returned (.tuple #[.slice none 0 0, .int .i64 (-1)])
  | lv :: _ => ∃ v, e = .returned (.tuple #[v, .int .i64 (lv + 1)]) ∧ Gives (picks hs lv hs.length) w' v
theorem first_before {hs : List Hv} {lv : Int} {k : Nat} (hk : k < hs.length) : fromB hs lv k = (hs[k].hd.level == lv && (lv == 0 || !decide (firstAt hs lv < k))) := by
  unfold fromB
  rw [getD_lt hs hv0 hk]
  by_cases h : hs[k].hd.level = lv
  · have : firstAt hs lv ≤ k := by
      apply Classical.byContradiction
      intro hc
      have h9 : (hs[k].hd.level == lv) = false := by
        have e : k < firstAt hs lv := by omega
        simpa [firstAt] using List.not_of_lt_findIdx e
      rw [h] at h9
      simp at h9
    by_cases h2 : k = firstAt hs lv
    · have e1 : (k == firstAt hs lv) = true := by simp [← h2]
      have e2 : decide (firstAt hs lv < k) = false := decide_eq_false (by omega)
      rw [e1, e2]; rfl
    · have h3 : firstAt hs lv < k := by omega
      simp [h, h2, h3]
  · have : (hs[k].hd.level == lv) = false := beq_eq_false_iff_ne.2 h
    rw [this]; rfl
theorem first_next {hs : List Hv} {lv : Int} {k : Nat} (hk : k < hs.length) : decide (firstAt hs lv < k + 1) = (decide (firstAt hs lv < k) || hs[k].hd.level == lv) := by
  by_cases h : hs[k].hd.level = lv
  · have : firstAt hs lv ≤ k := by
      apply Classical.byContradiction
      intro hc
      have h9 : (hs[k].hd.level == lv) = false := by
        have e : k < firstAt hs lv := by omega
        simpa [firstAt] using List.not_of_lt_findIdx e
      rw [h] at h9
      simp at h9
    simp [h]; omega
  · have hne : firstAt hs lv ≠ k := by
      intro he
      have := List.findIdx_getElem (p := fun h : Hv => h.hd.level == lv) (xs := hs) (w := by rw [show hs.findIdx (fun h : Hv => h.hd.level == lv) = firstAt hs lv from rfl, he]; exact hk)
      simp only [show hs.findIdx (fun h : Hv => h.hd.level == lv) = k from he] at this
      simp [h] at this
    have : (hs[k].hd.level == lv) = false := beq_eq_false_iff_ne.2 h
    rw [this, Bool.or_false, Bool.eq_iff_iff, decide_eq_true_iff, decide_eq_true_iff]
    omega

theorem touch_comm (a b : Hd) : a.touch b = b.touch a := by
  unfold Hd.touch
  cases (a.len != 0) <;> cases (b.len != 0) <;> simp [Bool.and_comm]
theorem firsts_at {hs : List Hv} {lv : Int} {n t : Nat} (h : t < (firsts hs lv n).length) : ∃ q : Nat, q < n ∧ (firsts hs lv n)[t] = (q : Int) := by
  have hm : (firsts hs lv n)[t] ∈ firsts hs lv n := List.getElem_mem h
  unfold firsts at hm ⊢
  obtain ⟨q, hq, e⟩ := List.mem_map.1 hm
  exact ⟨q, List.mem_range.1 (List.mem_filter.1 hq).1, e.symm⟩
/-- Does one of the first t of those that are merged touch x? -/
def hit (hs : List Hv) (lv : Int) (n : Nat) (x : Hv) (t : Nat) : Bool := ((firsts hs lv n).take t).any fun q => (hs.getD q.toNat hv0).hd.touch x.hd
theorem hit_succ {hs : List Hv} {lv : Int} {n t q : Nat} {x : Hv} (h : t < (firsts hs lv n).length) (e : (firsts hs lv n)[t] = (q : Int)) : hit hs lv n x (t + 1) = (hit hs lv n x t || (hs.getD q hv0).hd.touch x.hd) := by
  unfold hit
  rw [take_next h, List.any_append, e]
  simp
theorem hit_all {hs : List Hv} {lv : Int} {x : Hv} {n : Nat} : hit hs lv n x (firsts hs lv n).length = touchedTo hs lv x n := by
  unfold hit touchedTo
  rw [List.take_length]
  unfold firsts
  rw [List.any_map, List.any_filter]
  apply congrArg (fun f => (List.range n).any f)
  funext j
  simp only [Function.comp, Int.toNat_natCast]
  rw [touch_comm]

set_option maxRecDepth 100000 in
set_option maxHeartbeats 4000000 in
theorem rpick_any (hs : List Hv) (A : Option Addr) (n c : Nat) (hn : n ≤ 1000) (w : World) (h : Helds w.heap.size w A n hs) :
    Calls Try.prog 16 #[.slice A n c] w fun e w' => RPickOf hs e w' ∧ Below w.heap.size w w' := by
  obtain ⟨i0, hi0, hz0, hz1, hz2⟩ := info_parts info3_
  obtain ⟨b0, hb0, hy0, hy1, hy2⟩ := info_parts info4_
  have hhl := h.len
  cases ho : overs hs 3 with
  | nil =>
    have HO := Lib.hid ho
    clear ho
    go_enter Try.func16, Try.ntmps16
    go_wp2_with fail
    refine (rovers_any hs A n c hn _ h.hrow).mono ?_
    rw [HO.out]
    rintro e w1 ⟨⟨v, rfl, A1, c1, rfl, -⟩, hb1⟩
    go_wp2
    go_ret2
    refine ⟨?_, hb1⟩
    unfold RPickOf
    rw [HO.out]
    rfl
  | cons lv rest =>
    obtain ⟨hlv0, hlv2, hov⟩ := overs_mem ho
    have hF := first_lt hlv0 hlv2 hov
    rw [h.len] at hF
    have HO := Lib.hid ho
    have HL := Lib.hid hhl
    clear ho hov hhl
    obtain ⟨cs, hcs, hmk⟩ := make1 (P := Try.prog) 47 4 b0 (Value.bool false) Try.underlying47 hb0 hy0 hy1 rfl n (by rw [hy2]; omega) (by omega)
    have HCS := Lib.hid hcs
    clear hcs
    go_enter Try.func16, Try.ntmps16
    go_wp2_with fail
    refine (rovers_any hs A n c hn _ h.hrow).mono ?_
    rw [HO.out]
    rintro e w1 ⟨⟨v, rfl, A1, c1, rfl, -, -, hrow⟩, hb1⟩
    obtain ⟨a1, v1, rfl, ha1, hv1, hc1⟩ := hrow.at1 (k := 0) (by simp)
    obtain rfl : v1 = .int .i64 lv := by simpa [ints] using hv1.symm
    rw [add_zero_] at hc1
    have t0 : ((rest.length : Int) + 1 == 0) = false := beq_eq_false_iff_ne.2 (by omega)
    clear hv1 hrow
    go_wp2_with fail
    clear hmk
    have hV : Below w.heap.size w (w1.alloc (.cells cs 4)) := hb1.alloc hb1.size _
    have hM : Marks w1.heap.size w1.heap.size n (fun _ => false) (w1.alloc (.cells cs 4)) := by
      have := World.ownsRow_lit (base := w1.heap.size) (e := 4) (size := 1) w1 cs n (Nat.le_refl _) (by unfold maxLen; omega) (by have := congrArg List.length HCS.out; simpa using this)
      rw [HCS.out, bls_false] at this
      unfold Marks
      simpa using this
    have hHP : Helds w1.heap.size w1 A n hs := (h.below hb1).up hb1.size
    have hP : Below w1.heap.size w1 (w1.alloc (.cells cs 4)) := (Below.refl _ _).alloc (Nat.le_refl _) _
    clear ha1 hc1 t0
    generalize hVe : w1.alloc (.cells cs 4) = V at *
    clear hVe
    go_loopw [7, 8] (fun x i wr => ∃ k : Nat, k ≤ n ∧ i = .int .i64 (k : Int) ∧ x = .bool (decide (firstAt hs lv < k)) ∧ Marks w1.heap.size w1.heap.size n (fun j => decide (j < k) && fromB hs lv j) wr ∧ Below w1.heap.size w1 wr) (fun _ i _ => n - (intOf i).toNat)
    case atStart => exact ⟨0, Nat.zero_le _, rfl, by simp, by simpa using hM, hP⟩
    case round =>
      clear hM hV hP
      obtain ⟨k, hk, rfl, rfl, hM, hP⟩ := hrel
      by_cases hlt : k < n
      · obtain ⟨a, hl, rfl, ⟨hbk, d0, d1, d2, d3, d4⟩, hok⟩ := (hHP.below hP).at_ hlt
        have F1 := Lib.hid (first_before (lv := lv) hl)
        have F2 := Lib.hid (first_next (lv := lv) hl)
        generalize hs[k] = x at *
        have hfz := World.ownsRow.frozenAt hM k
        have hco := World.ownsRow.cellAt hM k (by omega)
        rw [bls_get _ _ _ hlt] at hco
        by_cases hx : x.hd.level = lv
        · by_cases h00 : lv = 0 ∨ k ≤ firstAt hs lv
          · have hfr : fromB hs lv k = true := by
              rw [F1.out, hx]
              rcases h00 with h0 | h0
              · simp [h0]
              · have : decide (firstAt hs lv < k) = false := decide_eq_false (by omega)
                simp [this]
            have HFR := Lib.hid hfr
            have hst := (World.ownsRow.stored (w := wr) hM k (Value.bool true)).1
            rw [bls_set, bls_congr (g := fun j => decide (j < k + 1) && fromB hs lv j) (by
              intro i hi
              by_cases h1 : i = k
              · subst h1; simp [hfr]
              · have : decide (i < k + 1) = decide (i < k) := by rw [Bool.eq_iff_iff, decide_eq_true_iff, decide_eq_true_iff]; omega
                simp [h1, this])] at hst
            have HST := Lib.hid hst
            have hbb : Below w1.heap.size w1 (wr.setCell ⟨w1.heap.size, k, none⟩ (.bool true)) := hP.setCell (Nat.le_refl _) _
            have hff : decide (firstAt hs lv < k + 1) = true := by rw [F2.out, hx]; simp
            have HFF := Lib.hid hff
            clear hst hff hfr
            subst hx
            have hk63 : (k : Int) < (n : Int) := by omega
            by_cases h0 : x.hd.level = 0
            · have l0 : (x.hd.level == 0) = true := beq_iff_eq.2 h0
              clear h0 h00 hM
              go_wp2_with fail
              go_roundw
              case rel => exact ⟨k + 1, hlt, by go_num, by rw [HFF.out], HST.out, hbb⟩
              case measure => simp [intOf]; omega
            · have l0 : (x.hd.level == 0) = false := beq_eq_false_iff_ne.2 h0
              have hfd : decide (firstAt hs x.hd.level < k) = false := decide_eq_false (by
                rcases h00 with h00 | h00
                · exact absurd h00 h0
                · omega)
              rw [hfd]
              clear h0 h00 hM hfd
              go_wp2_with fail
              go_roundw
              case rel => exact ⟨k + 1, hlt, by go_num, by rw [HFF.out], HST.out, hbb⟩
              case measure => simp [intOf]; omega
          · have l0 : (lv == 0) = false := beq_eq_false_iff_ne.2 (fun e => h00 (.inl e))
            have hfd : decide (firstAt hs lv < k) = true := decide_eq_true (by
              apply Classical.byContradiction
              intro hc
              exact h00 (.inr (by omega)))
            have hfr : fromB hs lv k = false := by rw [F1.out, hx, hfd, l0]; simp
            have hst : Marks w1.heap.size w1.heap.size n (fun j => decide (j < k + 1) && fromB hs lv j) wr := by
              unfold Marks
              rw [bls_congr (g := fun j => decide (j < k) && fromB hs lv j) (by
                intro i hi
                by_cases h1 : i = k
                · subst h1; simp [hfr]
                · have : decide (i < k + 1) = decide (i < k) := by rw [Bool.eq_iff_iff, decide_eq_true_iff, decide_eq_true_iff]; omega
                  simp [this])]
              exact hM
            have hff : decide (firstAt hs lv < k + 1) = true := by rw [F2.out, hfd]; rfl
            have HST := Lib.hid hst
            have HFF := Lib.hid hff
            rw [hfd]
            clear hst hff hfr hfd h00 hM
            subst hx
            go_wp2_with fail
            go_roundw
            case rel => exact ⟨k + 1, hlt, by go_num, by rw [HFF.out], HST.out, hP⟩
            case measure => simp [intOf]; omega
        · have l0 : (x.hd.level == lv) = false := beq_eq_false_iff_ne.2 hx
          have hfr : fromB hs lv k = false := by rw [F1.out, l0]; rfl
          have hst : Marks w1.heap.size w1.heap.size n (fun j => decide (j < k + 1) && fromB hs lv j) wr := by
            unfold Marks
            rw [bls_congr (g := fun j => decide (j < k) && fromB hs lv j) (by
              intro i hi
              by_cases h1 : i = k
              · subst h1; simp [hfr]
              · have : decide (i < k + 1) = decide (i < k) := by rw [Bool.eq_iff_iff, decide_eq_true_iff, decide_eq_true_iff]; omega
                simp [this])]
            exact hM
          have hff : decide (firstAt hs lv < k + 1) = decide (firstAt hs lv < k) := by rw [F2.out, l0]; simp
          have HST := Lib.hid hst
          have HFF := Lib.hid hff
          clear hst hff hfr hM hx
          go_wp2_with fail
          go_roundw
          case rel => exact ⟨k + 1, hlt, by go_num, by rw [HFF.out], HST.out, hP⟩
          case measure => simp [intOf]; omega
      · obtain rfl : n = k := by omega
        have hM1 : Marks w1.heap.size w1.heap.size n (fromB hs lv) wr := by
          unfold Marks
          rw [bls_congr (g := fun j => decide (j < n) && fromB hs lv j) (by
            intro i hi
            simp [hi])]
          exact hM
        clear hM hlt hk
        obtain ⟨W1, rfl⟩ : ∃ W1 : World, W1 = wr := ⟨_, rfl⟩
        have HFF := Lib.hid hF
        clear hF
        go_wp2_with fail
        go_loopw [9, 10] (fun v i wr => ∃ k : Nat, k ≤ n ∧ i = .int .i64 (k : Int) ∧ Owns W1.heap.size (firsts hs lv k) wr v ∧ Below W1.heap.size W1 wr) (fun _ i _ => n - (intOf i).toNat)
        case atStart => exact ⟨0, Nat.zero_le _, rfl, World.ownsRow_nil W1 W1.heap.size 3 1, Below.refl _ _⟩
        case round =>
          obtain ⟨k, hk, rfl, ho, hb⟩ := hrel
          obtain ⟨A9, c9, rfl, hlc, hcm, hbase⟩ := own_form ho
          have hM2 := own_below hM1 hb
          by_cases hlt : k < n
          · have hco := World.ownsRow.cellAt hM2 k (by omega)
            rw [bls_get _ _ _ hlt] at hco
            have E1 := Lib.hid (firsts_succ hs lv k)
            have hle := firsts_le hs lv k
            have hk63 : (k : Int) < (n : Int) := by omega
            clear hM2
            cases hfr : fromB hs lv k
            · rw [hfr] at hco
              have HFR := Lib.hid hfr
              clear hfr
              go_wp2_with fail
              go_roundw
              case rel => exact ⟨k + 1, hlt, by go_num, by rw [E1.out, if_neg (by rw [HFR.out]; decide), List.append_nil]; exact ho, hb⟩
              case measure => simp [intOf]; omega
            · rw [hfr] at hco
              have HFR := Lib.hid hfr
              clear hfr
              go_wp2_with (at_builtin; refine stop_in ?_)
              refine stop_out (wpList_app rfl (.tmp 60) (.tmp 62) _ rfl W1.heap.size 3 i0 _ 1 8 Try.underlying28 hi0 hz0 hz1 hz2 rfl (by omega) W1 (hb.alloc hb.size _) (by have := hb.size; simp; omega) _ _ _ rfl (ho.alloc _) _ _ 1 1 (ints [(k : Int)]) rfl (Row.new _ #[.int .i64 (k : Int)] 3 rfl) (ints_one _) _ _ rfl rfl (by unfold maxLen; omega) (by omega) ?_)
              intro A3 c3 w3 ho3 hb3 _ hc3 hm3
              go_wp2_with fail
              go_roundw
              case rel => exact ⟨k + 1, hlt, by go_num, by rw [E1.out, if_pos HFR.out]; unfold Owns; rw [ints_append, List.length_append]; exact ho3, hb3⟩
              case measure => simp [intOf]; omega
          · obtain rfl : n = k := by omega
            clear hlt hk
            obtain ⟨W2, rfl⟩ : ∃ W2 : World, W2 = wr := ⟨_, rfl⟩
            have hPW1 : w1.heap.size < W1.heap.size := by
              have := World.ownsRow.lt hM1 w1.heap.size rfl
              exact this.2
            have hne9 : ∀ a, A9 = some a → a.block ≠ w1.heap.size := fun a ha => by have := (hbase a ha).1; omega
            have hR9 : Row W2.heap.size W2 A9 (firsts hs lv n).length 1 (ints (firsts hs lv n)) := Row.own ho
            have hP2 : Below w1.heap.size w1 W2 := hP.trans (hb.mono hP.size)
            have hfl := firsts_le hs lv n
            have hW12 := hb.size
            clear ho hM1 hb hP hbase
            go_wp2_with fail
            go_loopw [11] (fun i wr => ∃ k : Nat, k ≤ n ∧ i = .int .i64 (k : Int) ∧ Marks w1.heap.size w1.heap.size n (fun j => if j < k then pickB hs lv j else fromB hs lv j) wr ∧ Row W2.heap.size wr A9 (firsts hs lv n).length 1 (ints (firsts hs lv n)) ∧ Below w1.heap.size w1 wr ∧ W2.heap.size ≤ wr.heap.size) (fun i _ => n - (intOf i).toNat)
            case atStart => exact ⟨0, Nat.zero_le _, rfl, by unfold Marks; simpa using hM2, hR9, hP2, Nat.le_refl _⟩
            case round =>
              clear hM2 hR9 hP2
              obtain ⟨k, hk, rfl, hM3, hRow, hP3, hW2w⟩ := hrel
              by_cases hlt : k < n
              · obtain ⟨a, hl, rfl, hat, hok⟩ := (hHP.below hP3).at_ hlt
                have hgd := getD_lt hs hv0 hl
                have HGD := Lib.hid hgd
                have hHk := hHP
                clear hgd hat hok
                generalize hxk : hs[k] = x at *
                have HXK := Lib.hid hxk
                clear hxk
                obtain ⟨a_, hl_, ha_, hat, hok⟩ := (hHP.below hP3).at_ hlt
                obtain rfl : a = a_ := by simpa using ha_
                rw [HXK.out] at hat hok
                obtain ⟨hbk, d0, d1, d2, d3, d4⟩ := hat
                by_cases hlev : x.hd.level = lv + 1
                · go_wp2_with fail
                  go_loopw [12] (fun i wr => ∃ t : Nat, t ≤ (firsts hs lv n).length ∧ i = .int .i64 (t : Int) ∧ Marks w1.heap.size w1.heap.size n (fun j => if j = k then fromB hs lv k || hit hs lv n x t else if j < k then pickB hs lv j else fromB hs lv j) wr ∧ Row W2.heap.size wr A9 (firsts hs lv n).length 1 (ints (firsts hs lv n)) ∧ Below w1.heap.size w1 wr ∧ W2.heap.size ≤ wr.heap.size) (fun i _ => (firsts hs lv n).length - (intOf i).toNat)
                  case atStart =>
                    refine ⟨0, Nat.zero_le _, rfl, ?_, hRow, hP3, hW2w⟩
                    unfold Marks at hM3 ⊢
                    rw [bls_congr (g := fun j => if j < k then pickB hs lv j else fromB hs lv j) (by
                      intro i hi
                      by_cases h1 : i = k
                      · subst h1; simp [hit]
                      · simp [h1])]
                    exact hM3
                  case round =>
                    clear hM3 hRow hP3 hW2w d0 d1 d2 d3 d4 hok
                    obtain ⟨t, ht, rfl, hM3, hRow, hP3, hW2w⟩ := hrel
                    obtain ⟨a_, hl2_, ha2_, hat, hok⟩ := (hHP.below hP3).at_ hlt
                    obtain rfl : a = a_ := by simpa using ha2_
                    rw [HXK.out] at hat hok
                    obtain ⟨hbk, d0, d1, d2, d3, d4⟩ := hat
                    have hcc := World.ownsRow.cellAt hM3 k (by omega)
                    rw [bls_get _ _ _ hlt, if_pos rfl] at hcc
                    have hfz := World.ownsRow.frozenAt hM3 k
                    have hk63 : (k : Int) < (n : Int) := by omega
                    by_cases hlt2 : t < (firsts hs lv n).length
                    · obtain ⟨q, hqn, hqe⟩ := firsts_at hlt2
                      obtain ⟨b, hlb, rfl, hbb, hc5⟩ := hRow.int hlt2
                      rw [hqe] at hc5
                      obtain ⟨a_, hlq, haq, hatq, hokq⟩ := (hHP.below hP3).at_ hqn
                      obtain rfl : a = a_ := by simpa using haq
                      have hnx := hit_succ (x := x) hlt2 hqe
                      rw [getD_lt hs hv0 hlq] at hnx
                      generalize hs[q] = y at *
                      obtain ⟨hbq, e0, e1, e2, e3, e4⟩ := hatq
                      have hq63 : (q : Int) < (n : Int) := by omega
                      have hPW : w1.heap.size ≤ wr.heap.size := by omega
                      have oky : y.ok wr.drew.heap.size wr.drew := (hokq.up hPW).below (below_drew (Below.refl _ _))
                      have okx : x.ok wr.drew.heap.size wr.drew := (hok.up hPW).below (below_drew (Below.refl _ _))
                      have KB : Hid (∀ w' : World, (Below w1.heap.size wr w' ∧ Row W2.heap.size w' (some b) (firsts hs lv n).length 1 (ints (firsts hs lv n))) →
                          (w'.cell? (a.add (q * 5)) = some (.int .i64 y.hd.num) ∧ w'.cell? ⟨(a.add (q * 5)).block, (a.add (q * 5)).off + 1, none⟩ = some (.int .i64 y.hd.level) ∧ w'.cell? ⟨(a.add (q * 5)).block, (a.add (q * 5)).off + 2, none⟩ = some (.slice y.fa y.fn y.fc) ∧ w'.cell? ⟨(a.add (q * 5)).block, (a.add (q * 5)).off + 3, none⟩ = some (.slice y.la y.ln y.lc) ∧ w'.cell? ⟨(a.add (q * 5)).block, (a.add (q * 5)).off + 4, none⟩ = some (.int .i64 y.hd.len)) ∧
                          (w'.cell? (a.add (k * 5)) = some (.int .i64 x.hd.num) ∧ w'.cell? ⟨(a.add (k * 5)).block, (a.add (k * 5)).off + 1, none⟩ = some (.int .i64 x.hd.level) ∧ w'.cell? ⟨(a.add (k * 5)).block, (a.add (k * 5)).off + 2, none⟩ = some (.slice x.fa x.fn x.fc) ∧ w'.cell? ⟨(a.add (k * 5)).block, (a.add (k * 5)).off + 3, none⟩ = some (.slice x.la x.ln x.lc) ∧ w'.cell? ⟨(a.add (k * 5)).block, (a.add (k * 5)).off + 4, none⟩ = some (.int .i64 x.hd.len)) ∧
                          w'.cell? (b.add t) = some (.int .i64 (q : Int))) := Lib.hid (by
                        rintro w' ⟨hw1, hw2⟩
                        obtain ⟨_, _, _, _, h5⟩ := hw2.int hlt2
                        have hb1 : (a.add (q * 5)).block < w1.heap.size := by rw [add_block]; exact hbq
                        have hb2 : (a.add (k * 5)).block < w1.heap.size := by rw [add_block]; exact hbk
                        rename_i b_ _ hbe _
                        obtain rfl : b = b_ := by simpa using hbe
                        rw [hqe] at h5
                        exact ⟨⟨(hw1.cell hb1).trans e0, (hw1.cell (p := ⟨_, _, none⟩) hb1).trans e1, (hw1.cell (p := ⟨_, _, none⟩) hb1).trans e2, (hw1.cell (p := ⟨_, _, none⟩) hb1).trans e3, (hw1.cell (p := ⟨_, _, none⟩) hb1).trans e4⟩,
                          ⟨(hw1.cell hb2).trans d0, (hw1.cell (p := ⟨_, _, none⟩) hb2).trans d1, (hw1.cell (p := ⟨_, _, none⟩) hb2).trans d2, (hw1.cell (p := ⟨_, _, none⟩) hb2).trans d3, (hw1.cell (p := ⟨_, _, none⟩) hb2).trans d4⟩, h5⟩)
                      have HNX := Lib.hid hnx
                      have HQE := Lib.hid hqe
                      clear hnx hqe
                      have HM := Lib.hid hM3
                      rw [hlev] at d1
                      have HLEV := Lib.hid hlev
                      clear hM3 hlev
                      cases hG : (fromB hs lv k || hit hs lv n x t)
                      · rw [hG] at hcc
                        have HGN : Hid ((fromB hs lv k || hit hs lv n x (t + 1)) = y.hd.touch x.hd) := by
                          have h1 := Bool.or_eq_false_iff.1 hG
                          rw [HNX.out, h1.1, h1.2]
                          exact Lib.hid rfl
                        clear hG
                        go_wp2_with fail
                        refine wp_region_held_drew (S := (fun w' => Below w1.heap.size wr w' ∧ Row W2.heap.size w' (some b) (firsts hs lv n).length 1 (ints (firsts hs lv n)))) rfl ⟨below_drew (Below.refl _ _), hRow.drew⟩ (fun hSw => ?_)
                        refine wpAnyH_take (i := 0) (v := ?v0) rfl (by kernel_rfl) (by kernel_rfl) (by kernel_rfl) (fun _ _ _ h => h) (Or.inl ⟨by rfl, ?h0⟩) hSw ?k0
                        case h0 => (intro w hSw; obtain ⟨⟨p0, p1, p2, p3, p4⟩, ⟨q0, q1, q2, q3, q4⟩, q5⟩ := KB.out w hSw; go_simp; try (with_reducible rfl))
                        go_simp
                        refine wpAnyH_take (i := 1) (v := ?v1) rfl (by kernel_rfl) (by kernel_rfl) (by kernel_rfl) (fun _ _ _ h => h) (Or.inl ⟨by rfl, ?h1⟩) hSw ?k1
                        case h1 => (intro w hSw; obtain ⟨⟨p0, p1, p2, p3, p4⟩, ⟨q0, q1, q2, q3, q4⟩, q5⟩ := KB.out w hSw; go_simp; try (with_reducible rfl))
                        go_simp
                        refine wpAnyH_take (i := 2) (v := ?v2) rfl (by kernel_rfl) (by kernel_rfl) (by kernel_rfl) (fun _ _ _ h => h) (Or.inl ⟨by rfl, ?h2⟩) hSw ?k2
                        case h2 => (intro w hSw; obtain ⟨⟨p0, p1, p2, p3, p4⟩, ⟨q0, q1, q2, q3, q4⟩, q5⟩ := KB.out w hSw; go_simp; try (with_reducible rfl))
                        go_simp
                        refine wpAnyH_take (i := 3) (v := ?v3) rfl (by kernel_rfl) (by kernel_rfl) (by kernel_rfl) (fun _ _ _ h => h) (Or.inl ⟨by rfl, ?h3⟩) hSw ?k3
                        case h3 => (intro w hSw; obtain ⟨⟨p0, p1, p2, p3, p4⟩, ⟨q0, q1, q2, q3, q4⟩, q5⟩ := KB.out w hSw; go_simp; try (with_reducible rfl))
                        go_simp
                        refine wpAnyH_take (i := 4) (v := ?v4) rfl (by kernel_rfl) (by kernel_rfl) (by kernel_rfl) (fun _ _ _ h => h) (Or.inl ⟨by rfl, ?h4⟩) hSw ?k4
                        case h4 => (intro w hSw; obtain ⟨⟨p0, p1, p2, p3, p4⟩, ⟨q0, q1, q2, q3, q4⟩, q5⟩ := KB.out w hSw; go_simp; try (with_reducible rfl))
                        go_simp
                        refine wpAnyH_ready (rs := [5]) (by kernel_rfl) (by simp) ?_
                        refine AllReadyH.cons rfl (fun K hK => ?_) AllReadyH.nil
                        go_simp
                        refine hK.out _ _ hSw (fun hSn => ?_)
                        clear hK K hSw
                        have hSw := hSn
                        clear hSn
                        go_simp
                        refine wpAnyH_take (i := 6) (v := ?v6) rfl (by kernel_rfl) (by kernel_rfl) (by kernel_rfl) (fun _ _ _ h => h) (Or.inl ⟨by rfl, ?h6⟩) hSw ?k6
                        case h6 => (intro w hSw; obtain ⟨⟨p0, p1, p2, p3, p4⟩, ⟨q0, q1, q2, q3, q4⟩, q5⟩ := KB.out w hSw; go_simp; try (with_reducible rfl))
                        go_simp
                        refine wpAnyH_take (i := 7) (v := ?v7) rfl (by kernel_rfl) (by kernel_rfl) (by kernel_rfl) (fun _ _ _ h => h) (Or.inl ⟨by rfl, ?h7⟩) hSw ?k7
                        case h7 => (intro w hSw; obtain ⟨⟨p0, p1, p2, p3, p4⟩, ⟨q0, q1, q2, q3, q4⟩, q5⟩ := KB.out w hSw; go_simp; try (with_reducible rfl))
                        go_simp
                        refine wpAnyH_take (i := 8) (v := ?v8) rfl (by kernel_rfl) (by kernel_rfl) (by kernel_rfl) (fun _ _ _ h => h) (Or.inl ⟨by rfl, ?h8⟩) hSw ?k8
                        case h8 => (intro w hSw; obtain ⟨⟨p0, p1, p2, p3, p4⟩, ⟨q0, q1, q2, q3, q4⟩, q5⟩ := KB.out w hSw; go_simp; try (with_reducible rfl))
                        go_simp
                        refine wpAnyH_take (i := 9) (v := ?v9) rfl (by kernel_rfl) (by kernel_rfl) (by kernel_rfl) (fun _ _ _ h => h) (Or.inl ⟨by rfl, ?h9⟩) hSw ?k9
                        case h9 => (intro w hSw; obtain ⟨⟨p0, p1, p2, p3, p4⟩, ⟨q0, q1, q2, q3, q4⟩, q5⟩ := KB.out w hSw; go_simp; try (with_reducible rfl))
                        go_simp
                        refine wpAnyH_take (i := 10) (v := ?v10) rfl (by kernel_rfl) (by kernel_rfl) (by kernel_rfl) (fun _ _ _ h => h) (Or.inl ⟨by rfl, ?h10⟩) hSw ?k10
                        case h10 => (intro w hSw; obtain ⟨⟨p0, p1, p2, p3, p4⟩, ⟨q0, q1, q2, q3, q4⟩, q5⟩ := KB.out w hSw; go_simp; try (with_reducible rfl))
                        go_simp
                        refine wpAnyH_take (i := 11) (v := ?v11) rfl (by kernel_rfl) (by kernel_rfl) (by kernel_rfl) (fun _ _ _ h => h) (Or.inl ⟨by rfl, ?h11⟩) hSw ?k11
                        case h11 => (intro w hSw; obtain ⟨⟨p0, p1, p2, p3, p4⟩, ⟨q0, q1, q2, q3, q4⟩, q5⟩ := KB.out w hSw; go_simp; try (with_reducible rfl))
                        go_simp
                        refine wpAnyH_take (i := 12) (v := ?v12) rfl (by kernel_rfl) (by kernel_rfl) (by kernel_rfl) (fun _ _ _ h => h) (Or.inl ⟨by rfl, ?h12⟩) hSw ?k12
                        case h12 => (intro w hSw; obtain ⟨⟨p0, p1, p2, p3, p4⟩, ⟨q0, q1, q2, q3, q4⟩, q5⟩ := KB.out w hSw; go_simp; try (with_reducible rfl))
                        go_simp
                        refine wpAnyH_take (i := 13) (v := ?v13) rfl (by kernel_rfl) (by kernel_rfl) (by kernel_rfl) (fun _ _ _ h => h) (Or.inl ⟨by rfl, ?h13⟩) hSw ?k13
                        case h13 => (intro w hSw; obtain ⟨⟨p0, p1, p2, p3, p4⟩, ⟨q0, q1, q2, q3, q4⟩, q5⟩ := KB.out w hSw; go_simp; try (with_reducible rfl))
                        go_simp
                        refine wpAnyH_take (i := 14) (v := ?v14) rfl (by kernel_rfl) (by kernel_rfl) (by kernel_rfl) (fun _ _ _ h => h) (Or.inl ⟨by rfl, ?h14⟩) hSw ?k14
                        case h14 => (intro w hSw; obtain ⟨⟨p0, p1, p2, p3, p4⟩, ⟨q0, q1, q2, q3, q4⟩, q5⟩ := KB.out w hSw; go_simp; try (with_reducible rfl))
                        go_simp
                        refine wpAnyH_take (i := 15) (v := ?v15) rfl (by kernel_rfl) (by kernel_rfl) (by kernel_rfl) (fun _ _ _ h => h) (Or.inl ⟨by rfl, ?h15⟩) hSw ?k15
                        case h15 => (intro w hSw; obtain ⟨⟨p0, p1, p2, p3, p4⟩, ⟨q0, q1, q2, q3, q4⟩, q5⟩ := KB.out w hSw; go_simp; try (with_reducible rfl))
                        go_simp
                        refine wpAnyH_take (i := 16) (v := ?v16) rfl (by kernel_rfl) (by kernel_rfl) (by kernel_rfl) (fun _ _ _ h => h) (Or.inl ⟨by rfl, ?h16⟩) hSw ?k16
                        case h16 => (intro w hSw; obtain ⟨⟨p0, p1, p2, p3, p4⟩, ⟨q0, q1, q2, q3, q4⟩, q5⟩ := KB.out w hSw; go_simp; try (with_reducible rfl))
                        go_simp
                        refine wpAnyH_take (i := 17) (v := ?v17) rfl (by kernel_rfl) (by kernel_rfl) (by kernel_rfl) (fun _ _ _ h => h) (Or.inl ⟨by rfl, ?h17⟩) hSw ?k17
                        case h17 => (intro w hSw; obtain ⟨⟨p0, p1, p2, p3, p4⟩, ⟨q0, q1, q2, q3, q4⟩, q5⟩ := KB.out w hSw; go_simp; try (with_reducible rfl))
                        go_simp
                        refine wpAnyH_ready (rs := [18]) (by kernel_rfl) (by simp) ?_
                        refine AllReadyH.cons rfl (fun K hK => ?_) AllReadyH.nil
                        go_simp
                        refine (rtouch_any y.hd x.hd _ _ _ _ _ _ _ _ _ _ _ _ _ oky.first oky.last okx.first okx.last).mono ?_
                        rintro e w18 ⟨rfl, hb18⟩; have hqc : w18.cell? ⟨w1.heap.size, k, none⟩ = some (.bool false) := cell_keep (w := wr.drew) hcc hb18; have hqf : w18.frozen? ⟨w1.heap.size, k, none⟩ = false := (hb18.frozen (p := ⟨w1.heap.size, k, none⟩) (World.block_lt_of_cell? wr _ hcc)).trans hfz
                        go_simp
                        refine hK.out _ _ ⟨hSw.1.trans (hb18.mono hPW), hSw.2.below (hb18.mono hW2w)⟩ (fun hSn => ?_)
                        clear hK K hSw
                        have hSw := hSn
                        clear hSn
                        go_simp
                        refine wpAnyH_take (i := 19) (v := ?v19) rfl (by kernel_rfl) (by kernel_rfl) (by kernel_rfl) (fun _ _ _ h => h) (Or.inl ⟨by rfl, ?h19⟩) hSw ?k19
                        case h19 => (intro w hSw; obtain ⟨⟨p0, p1, p2, p3, p4⟩, ⟨q0, q1, q2, q3, q4⟩, q5⟩ := KB.out w hSw; go_simp; try (with_reducible rfl))
                        go_simp
                        refine wpAnyH_take (i := 20) (v := ?v20) rfl (by kernel_rfl) (by kernel_rfl) (by kernel_rfl) (fun _ _ _ h => h) (Or.inl ⟨by rfl, ?h20⟩) hSw ?k20
                        case h20 => (intro w hSw; obtain ⟨⟨p0, p1, p2, p3, p4⟩, ⟨q0, q1, q2, q3, q4⟩, q5⟩ := KB.out w hSw; go_simp; try (with_reducible rfl))
                        go_simp
                        refine wpAnyH_ready (rs := [21]) (by kernel_rfl) (by simp) ?_
                        refine AllReadyH.cons rfl (fun K hK => ?_) AllReadyH.nil
                        go_simp
                        refine hK.out _ _ ⟨hSw.1.setCell (Nat.le_refl _) _, hSw.2.setNe hne9 _⟩ (fun hSn => ?_)
                        clear hK K hSw
                        have hSw := hSn
                        clear hSn
                        go_simp
                        refine wpAnyH_done (by kernel_rfl) ?_ _
                        go_wp2
                        go_roundw
                        case rel =>
                          refine ⟨t + 1, by omega, by go_num, ?_, hSw.2, hP3.trans hSw.1, Nat.le_trans hW2w hSw.1.size⟩
                          have hst := (World.ownsRow.stored (w := w18) (own_below (w := wr.drew) HM.out hb18) k (Value.bool (y.hd.touch x.hd))).1
                          rw [bls_set, bls_congr (g := fun j => if j = k then fromB hs lv k || hit hs lv n x (t + 1) else if j < k then pickB hs lv j else fromB hs lv j) (by
                            intro i hi
                            by_cases h1 : i = k
                            · subst h1; simp only [if_true]; exact HGN.out.symm
                            · simp only [if_neg h1])] at hst
                          exact hst
                        case measure => simp [intOf]; omega
                      · rw [hG] at hcc
                        have HGN : Hid ((fromB hs lv k || hit hs lv n x (t + 1)) = true) := by
                          rw [HNX.out, ← Bool.or_assoc, hG]
                          exact Lib.hid rfl
                        clear hG
                        go_wp2_with fail
                        refine wp_region_held_drew (S := (fun w' => Below w1.heap.size wr w' ∧ Row W2.heap.size w' (some b) (firsts hs lv n).length 1 (ints (firsts hs lv n)))) rfl ⟨below_drew (Below.refl _ _), hRow.drew⟩ (fun hSw => ?_)
                        refine wpAnyH_take (i := 0) (v := ?vb0) rfl (by kernel_rfl) (by kernel_rfl) (by kernel_rfl) (fun _ _ _ h => h) (Or.inl ⟨by rfl, ?hb0⟩) hSw ?kb0
                        case hb0 => (intro w hSw; obtain ⟨⟨p0, p1, p2, p3, p4⟩, ⟨q0, q1, q2, q3, q4⟩, q5⟩ := KB.out w hSw; go_simp; try (with_reducible rfl))
                        go_simp
                        refine wpAnyH_take (i := 1) (v := ?vb1) rfl (by kernel_rfl) (by kernel_rfl) (by kernel_rfl) (fun _ _ _ h => h) (Or.inl ⟨by rfl, ?hb1⟩) hSw ?kb1
                        case hb1 => (intro w hSw; obtain ⟨⟨p0, p1, p2, p3, p4⟩, ⟨q0, q1, q2, q3, q4⟩, q5⟩ := KB.out w hSw; go_simp; try (with_reducible rfl))
                        go_simp
                        refine wpAnyH_take (i := 2) (v := ?vb2) rfl (by kernel_rfl) (by kernel_rfl) (by kernel_rfl) (fun _ _ _ h => h) (Or.inl ⟨by rfl, ?hb2⟩) hSw ?kb2
                        case hb2 => (intro w hSw; obtain ⟨⟨p0, p1, p2, p3, p4⟩, ⟨q0, q1, q2, q3, q4⟩, q5⟩ := KB.out w hSw; go_simp; try (with_reducible rfl))
                        go_simp
                        refine wpAnyH_take (i := 3) (v := ?vb3) rfl (by kernel_rfl) (by kernel_rfl) (by kernel_rfl) (fun _ _ _ h => h) (Or.inl ⟨by rfl, ?hb3⟩) hSw ?kb3
                        case hb3 => (intro w hSw; obtain ⟨⟨p0, p1, p2, p3, p4⟩, ⟨q0, q1, q2, q3, q4⟩, q5⟩ := KB.out w hSw; go_simp; try (with_reducible rfl))
                        go_simp
                        refine wpAnyH_take (i := 4) (v := ?vb4) rfl (by kernel_rfl) (by kernel_rfl) (by kernel_rfl) (fun _ _ _ h => h) (Or.inl ⟨by rfl, ?hb4⟩) hSw ?kb4
                        case hb4 => (intro w hSw; obtain ⟨⟨p0, p1, p2, p3, p4⟩, ⟨q0, q1, q2, q3, q4⟩, q5⟩ := KB.out w hSw; go_simp; try (with_reducible rfl))
                        go_simp
                        refine wpAnyH_ready (rs := [5]) (by kernel_rfl) (by simp) ?_
                        refine AllReadyH.cons rfl (fun K hK => ?_) AllReadyH.nil
                        go_simp
                        refine hK.out _ _ hSw (fun hSn => ?_)
                        clear hK K hSw
                        have hSw := hSn
                        clear hSn
                        go_simp
                        refine wpAnyH_take (i := 6) (v := ?vb6) rfl (by kernel_rfl) (by kernel_rfl) (by kernel_rfl) (fun _ _ _ h => h) (Or.inl ⟨by rfl, ?hb6⟩) hSw ?kb6
                        case hb6 => (intro w hSw; obtain ⟨⟨p0, p1, p2, p3, p4⟩, ⟨q0, q1, q2, q3, q4⟩, q5⟩ := KB.out w hSw; go_simp; try (with_reducible rfl))
                        go_simp
                        refine wpAnyH_take (i := 7) (v := undef) rfl (by kernel_rfl) (by kernel_rfl) (by kernel_rfl) (fun _ _ _ h => h) (Or.inr ⟨by rfl, rfl⟩) hSw ?_
                        go_simp
                        refine wpAnyH_take (i := 8) (v := undef) rfl (by kernel_rfl) (by kernel_rfl) (by kernel_rfl) (fun _ _ _ h => h) (Or.inr ⟨by rfl, rfl⟩) hSw ?_
                        go_simp
                        refine wpAnyH_take (i := 9) (v := undef) rfl (by kernel_rfl) (by kernel_rfl) (by kernel_rfl) (fun _ _ _ h => h) (Or.inr ⟨by rfl, rfl⟩) hSw ?_
                        go_simp
                        refine wpAnyH_take (i := 10) (v := undef) rfl (by kernel_rfl) (by kernel_rfl) (by kernel_rfl) (fun _ _ _ h => h) (Or.inr ⟨by rfl, rfl⟩) hSw ?_
                        go_simp
                        refine wpAnyH_take (i := 11) (v := undef) rfl (by kernel_rfl) (by kernel_rfl) (by kernel_rfl) (fun _ _ _ h => h) (Or.inr ⟨by rfl, rfl⟩) hSw ?_
                        go_simp
                        refine wpAnyH_take (i := 12) (v := undef) rfl (by kernel_rfl) (by kernel_rfl) (by kernel_rfl) (fun _ _ _ h => h) (Or.inr ⟨by rfl, rfl⟩) hSw ?_
                        go_simp
                        refine wpAnyH_take (i := 13) (v := undef) rfl (by kernel_rfl) (by kernel_rfl) (by kernel_rfl) (fun _ _ _ h => h) (Or.inr ⟨by rfl, rfl⟩) hSw ?_
                        go_simp
                        refine wpAnyH_take (i := 14) (v := undef) rfl (by kernel_rfl) (by kernel_rfl) (by kernel_rfl) (fun _ _ _ h => h) (Or.inr ⟨by rfl, rfl⟩) hSw ?_
                        go_simp
                        refine wpAnyH_take (i := 15) (v := undef) rfl (by kernel_rfl) (by kernel_rfl) (by kernel_rfl) (fun _ _ _ h => h) (Or.inr ⟨by rfl, rfl⟩) hSw ?_
                        go_simp
                        refine wpAnyH_take (i := 16) (v := undef) rfl (by kernel_rfl) (by kernel_rfl) (by kernel_rfl) (fun _ _ _ h => h) (Or.inr ⟨by rfl, rfl⟩) hSw ?_
                        go_simp
                        refine wpAnyH_take (i := 17) (v := undef) rfl (by kernel_rfl) (by kernel_rfl) (by kernel_rfl) (fun _ _ _ h => h) (Or.inr ⟨by rfl, rfl⟩) hSw ?_
                        go_simp
                        refine wpAnyH_take (i := 18) (v := undef) rfl (by kernel_rfl) (by kernel_rfl) (by kernel_rfl) (fun _ _ _ h => h) (Or.inr ⟨by rfl, rfl⟩) hSw ?_
                        go_simp
                        refine wpAnyH_take (i := 19) (v := ?vb19) rfl (by kernel_rfl) (by kernel_rfl) (by kernel_rfl) (fun _ _ _ h => h) (Or.inl ⟨by rfl, ?hb19⟩) hSw ?kb19
                        case hb19 => (intro w hSw; obtain ⟨⟨p0, p1, p2, p3, p4⟩, ⟨q0, q1, q2, q3, q4⟩, q5⟩ := KB.out w hSw; go_simp; try (with_reducible rfl))
                        go_simp
                        refine wpAnyH_take (i := 20) (v := ?vb20) rfl (by kernel_rfl) (by kernel_rfl) (by kernel_rfl) (fun _ _ _ h => h) (Or.inl ⟨by rfl, ?hb20⟩) hSw ?kb20
                        case hb20 => (intro w hSw; obtain ⟨⟨p0, p1, p2, p3, p4⟩, ⟨q0, q1, q2, q3, q4⟩, q5⟩ := KB.out w hSw; go_simp; try (with_reducible rfl))
                        go_simp
                        refine wpAnyH_ready (rs := [21]) (by kernel_rfl) (by simp) ?_
                        refine AllReadyH.cons rfl (fun K hK => ?_) AllReadyH.nil
                        go_simp
                        refine hK.out _ _ ⟨hSw.1.setCell (Nat.le_refl _) _, hSw.2.setNe hne9 _⟩ (fun hSn => ?_)
                        clear hK K hSw
                        have hSw := hSn
                        clear hSn
                        go_simp
                        refine wpAnyH_done (by kernel_rfl) ?_ _
                        go_wp2
                        go_roundw
                        case rel =>
                          refine ⟨t + 1, by omega, by go_num, ?_, hSw.2, hP3.trans hSw.1, Nat.le_trans hW2w hSw.1.size⟩
                          have hst := (World.ownsRow.stored (w := wr.drew) HM.out k (Value.bool true)).1
                          rw [bls_set, bls_congr (g := fun j => if j = k then fromB hs lv k || hit hs lv n x (t + 1) else if j < k then pickB hs lv j else fromB hs lv j) (by
                            intro i hi
                            by_cases h1 : i = k
                            · subst h1; simp only [if_true]; exact HGN.out.symm
                            · simp only [if_neg h1])] at hst
                          exact hst
                        case measure => simp [intOf]; omega
                    · obtain rfl : t = (firsts hs lv n).length := by omega
                      have hpk : (fromB hs lv k || hit hs lv n x (firsts hs lv n).length) = pickB hs lv k := by
                        unfold pickB
                        rw [hit_all, HGD.out, HL.out, hlev]
                        simp
                      have HM : Hid (Marks w1.heap.size w1.heap.size n (fun j => if j < k + 1 then pickB hs lv j else fromB hs lv j) wr) := by
                        unfold Marks at hM3 ⊢
                        rw [bls_congr (g := fun j => if j = k then fromB hs lv k || hit hs lv n x (firsts hs lv n).length else if j < k then pickB hs lv j else fromB hs lv j) (by
                          intro i hi
                          by_cases h1 : i = k
                          · subst h1; simp only [if_true]; rw [if_pos (by omega), hpk]
                          · simp only [if_neg h1]
                            by_cases h2 : i < k
                            · rw [if_pos h2, if_pos (by omega)]
                            · rw [if_neg h2, if_neg (by omega)])]
                        exact Lib.hid hM3
                      clear hM3 hpk
                      go_wp2_with fail
                      go_roundw
                      case rel => exact ⟨k + 1, hlt, by go_num, HM.out, hRow, hP3, hW2w⟩
                      case measure => simp [intOf]; omega
                · have hpk : fromB hs lv k = pickB hs lv k := by
                    unfold pickB
                    rw [HGD.out, show (x.hd.level == lv + 1) = false from beq_eq_false_iff_ne.2 hlev]
                    simp
                  have HM : Hid (Marks w1.heap.size w1.heap.size n (fun j => if j < k + 1 then pickB hs lv j else fromB hs lv j) wr) := by
                    unfold Marks at hM3 ⊢
                    rw [bls_congr (g := fun j => if j < k then pickB hs lv j else fromB hs lv j) (by
                      intro i hi
                      by_cases h1 : i = k
                      · subst h1; rw [if_pos (by omega), if_neg (by omega), hpk]
                      · by_cases h2 : i < k
                        · rw [if_pos h2, if_pos (by omega)]
                        · rw [if_neg h2, if_neg (by omega)])]
                    exact Lib.hid hM3
                  have hlev' : (x.hd.level == lv + 1) = false := beq_eq_false_iff_ne.2 hlev
                  clear hM3 hpk hlev
                  go_wp2_with fail
                  go_loopw [12] (fun i wq => i = .int .i64 0 ∧ wr = wq) (fun i _ => 0)
                  case atStart => exact ⟨rfl, rfl⟩
                  case round =>
                    obtain ⟨rfl, rfl⟩ := hrel
                    by_cases hm0 : 0 < (firsts hs lv n).length
                    · go_wp2_with fail
                      go_roundw
                      case rel => exact ⟨k + 1, hlt, by go_num, HM.out, hRow, hP3, hW2w⟩
                      case measure => simp [intOf]; omega
                    · go_wp2_with fail
                      go_roundw
                      case rel => exact ⟨k + 1, hlt, by go_num, HM.out, hRow, hP3, hW2w⟩
                      case measure => simp [intOf]; omega
              · obtain rfl : n = k := by omega
                have hM4 : Marks w1.heap.size w1.heap.size n (pickB hs lv) wr := by
                  unfold Marks at hM3 ⊢
                  rw [bls_congr (g := fun j => if j < n then pickB hs lv j else fromB hs lv j) (by intro i hi; rw [if_pos hi])]
                  exact hM3
                clear hM3 hlt hk
                obtain ⟨W3, rfl⟩ : ∃ W3 : World, W3 = wr := ⟨_, rfl⟩
                have hMW : w1.heap.size < W3.heap.size := by omega
                clear hRow hW2w
                go_wp2_with fail
                go_loopw [13, 14] (fun v i wr => ∃ k : Nat, k ≤ n ∧ i = .int .i64 (k : Int) ∧ Owns W3.heap.size (picks hs lv k) wr v ∧ Below W3.heap.size W3 wr) (fun _ i _ => n - (intOf i).toNat)
                case atStart => exact ⟨0, Nat.zero_le _, rfl, World.ownsRow_nil W3 W3.heap.size 3 1, Below.refl _ _⟩
                case round =>
                  obtain ⟨k, hk, rfl, ho, hb⟩ := hrel
                  obtain ⟨A8, c8, rfl, hlc8, hcm8, -⟩ := own_form ho
                  have hM5 := own_below hM4 hb
                  by_cases hlt : k < n
                  · obtain ⟨a, hl, rfl, hat, hok⟩ := (hHP.below (hP3.trans (hb.mono (Nat.le_of_lt hMW)))).at_ hlt
                    have hco := World.ownsRow.cellAt hM5 k (by omega)
                    rw [bls_get _ _ _ hlt] at hco
                    have hgd := getD_lt hs hv0 hl
                    have HGD := Lib.hid hgd
                    clear hgd
                    generalize hs[k] = x at *
                    obtain ⟨hbk, d0, d1, d2, d3, d4⟩ := hat
                    have E1 := Lib.hid (picks_succ hs lv k)
                    have hle := picks_le hs lv k
                    have hk63 : (k : Int) < (n : Int) := by omega
                    clear hM5
                    cases hfr : pickB hs lv k
                    · rw [hfr] at hco
                      have HFR := Lib.hid hfr
                      clear hfr
                      go_wp2_with fail
                      go_roundw
                      case rel => exact ⟨k + 1, hlt, by go_num, by rw [E1.out, if_neg (by rw [HFR.out]; decide), List.append_nil]; exact ho, hb⟩
                      case measure => simp [intOf]; omega
                    · rw [hfr] at hco
                      have HFR := Lib.hid hfr
                      clear hfr
                      go_wp2_with (at_builtin; refine stop_in ?_)
                      refine stop_out (wpList_app rfl (.tmp 117) (.tmp 123) _ rfl W3.heap.size 3 i0 _ 1 8 Try.underlying28 hi0 hz0 hz1 hz2 rfl (by omega) W3 (hb.alloc hb.size _) (by have := hb.size; simp; omega) _ _ _ rfl (ho.alloc _) _ _ 1 1 (ints [x.hd.num]) rfl (Row.new _ #[.int .i64 x.hd.num] 3 rfl) (ints_one _) _ _ rfl rfl (by unfold maxLen; omega) (by omega) ?_)
                      intro A3 c3 w3 ho3 hb3 _ hc3 hm3
                      go_wp2_with fail
                      go_roundw
                      case rel => exact ⟨k + 1, hlt, by go_num, by rw [E1.out, if_pos HFR.out, HGD.out]; unfold Owns; rw [ints_append, List.length_append]; exact ho3, hb3⟩
                      case measure => simp [intOf]; omega
                  · obtain rfl : n = k := by omega
                    have fin : RPickOf hs (.returned (.tuple #[.slice A8 (picks hs lv n).length c8, .int .i64 (lv + 1)])) wr := by
                      unfold RPickOf
                      rw [HO.out]
                      exact ⟨_, rfl, by rw [HL.out]; exact ho.gives⟩
                    have FIN := Lib.hid fin
                    clear fin
                    go_wp2
                    go_ret2
                    refine ⟨FIN.out, ?_⟩
                    exact later_ hb1 (hP3.trans (hb.mono (Nat.le_of_lt hMW)))
end Go.Proofs.Ytfbollkafcdfhaa
