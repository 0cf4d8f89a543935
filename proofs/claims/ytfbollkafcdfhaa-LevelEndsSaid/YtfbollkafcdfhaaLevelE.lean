/-
  The walk of level.Pick.
-/
import Derived.Test.YtfbollkafcdfhaaLevelD
namespace Go.Proofs.Ytfbollkafcdfhaa
open Go.RowKit

def touchedTo (hs : List Hv) (lv : Int) (x : Hv) (k : Nat) : Bool := (List.range k).any fun j => fromB hs lv j && x.hd.touch (hs.getD j hv0).hd
def pickB (hs : List Hv) (lv : Int) (i : Nat) : Bool := fromB hs lv i || ((hs.getD i hv0).hd.level == lv + 1 && touchedTo hs lv (hs.getD i hv0) hs.length)
def picks (hs : List Hv) (lv : Int) (k : Nat) : List Int := ((List.range k).filter (pickB hs lv)).map fun i => (hs.getD i hv0).hd.num
theorem touchedTo_succ (hs : List Hv) (lv : Int) (x : Hv) (k : Nat) : touchedTo hs lv x (k + 1) = (touchedTo hs lv x k || (fromB hs lv k && x.hd.touch (hs.getD k hv0).hd)) := by
  unfold touchedTo
  rw [List.range_succ, List.any_append]
  simp
theorem picks_succ (hs : List Hv) (lv : Int) (k : Nat) : picks hs lv (k + 1) = picks hs lv k ++ if pickB hs lv k = true then [(hs.getD k hv0).hd.num] else [] := by
  unfold picks
  rw [List.range_succ, List.filter_append, List.map_append]
  congr 1
  cases h : pickB hs lv k <;> simp [h]
theorem picks_le (hs : List Hv) (lv : Int) (k : Nat) : (picks hs lv k).length ≤ k := by
  unfold picks
  rw [List.length_map]
  exact Nat.le_trans (List.length_filter_le _ _) (by rw [List.length_range]; exact Nat.le_refl _)
theorem overs_mem {hs : List Hv} {lv : Int} {rest : List Int} (h : overs hs 3 = lv :: rest) : 0 ≤ lv ∧ lv ≤ 2 ∧ overB hs lv = true := by
  have : lv ∈ overs hs 3 := by rw [h]; exact List.mem_cons_self
  unfold overs at this
  obtain ⟨i, hi, rfl⟩ := List.mem_map.1 this
  obtain ⟨h1, h2⟩ := List.mem_filter.1 hi
  have := List.mem_range.1 h1
  exact ⟨by omega, by omega, h2⟩
theorem first_lt {hs : List Hv} {lv : Int} (h0 : 0 ≤ lv) (h2 : lv ≤ 2) (h : overB hs lv = true) : firstAt hs lv < hs.length := by
  apply List.findIdx_lt_length_of_exists
  apply Classical.byContradiction
  intro hn
  have hf : hs.filter (fun h => h.hd.level == lv) = [] := by
    rw [List.filter_eq_nil_iff]
    intro x hx hc
    exact hn ⟨x, hx, hc⟩
  unfold overB cntL itmL at h
  rcases (by omega : lv = 0 ∨ lv = 1 ∨ lv = 2) with rfl | rfl | rfl <;> simp [hf] at h

/-- A file in a block of its own. -/
structure Box (w : World) (p : Nat) (x : Hv) : Prop where
  c0 : w.cell? ⟨p, 0, none⟩ = some (.int .i64 x.hd.num)
  c1 : w.cell? ⟨p, 1, none⟩ = some (.int .i64 x.hd.level)
  c2 : w.cell? ⟨p, 2, none⟩ = some (.slice x.fa x.fn x.fc)
  c3 : w.cell? ⟨p, 3, none⟩ = some (.slice x.la x.ln x.lc)
  c4 : w.cell? ⟨p, 4, none⟩ = some (.int .i64 x.hd.len)
abbrev boxOf (x : Hv) : Obj := .cells #[.int .i64 x.hd.num, .int .i64 x.hd.level, .slice x.fa x.fn x.fc, .slice x.la x.ln x.lc, .int .i64 x.hd.len] 27
theorem Box.new (w : World) (x : Hv) : Box (w.alloc (boxOf x)) w.heap.size x := by
  constructor <;> (rw [World.cell?_alloc_at _ _ _ _ rfl]; rfl)
theorem Box.lt {w : World} {p : Nat} {x : Hv} (h : Box w p x) : p < w.heap.size := World.block_lt_of_cell? _ _ h.c0
theorem Box.below {w w' : World} {p : Nat} {x : Hv} (h : Box w p x) (hb : Below w.heap.size w w') : Box w' p x := by
  have := h.lt
  exact ⟨(hb.cell this).trans h.c0, (hb.cell (p := ⟨p, 1, none⟩) this).trans h.c1, (hb.cell (p := ⟨p, 2, none⟩) this).trans h.c2, (hb.cell (p := ⟨p, 3, none⟩) this).trans h.c3, (hb.cell (p := ⟨p, 4, none⟩) this).trans h.c4⟩
theorem cell_keep {w w' : World} {p : Addr} {v : Value} (h : w.cell? p = some v) (hb : Below w.heap.size w w') : w'.cell? p = some v := (hb.cell (World.block_lt_of_cell? _ _ h)).trans h
theorem cell_up {w : World} {p : Addr} {v : Value} (h : w.cell? p = some v) (o : Obj) : (w.alloc o).cell? p = some v := (World.cell?_alloc_lt w o p (World.block_lt_of_cell? _ _ h)).trans h

/-- What Pick hands back. -/
def PickOf (hs : List Hv) (e : Ending) (w' : World) : Prop := match overs hs 3 with
  | [] => e = .returned (.tuple #[.slice none 0 0, .int .i64 0, .bool false])
  | lv :: _ => ∃ v, e = .returned (.tuple #[v, .int .i64 (lv + 1), .bool true]) ∧ Gives (picks hs lv hs.length) w' v
theorem pick_ret {hs : List Hv} {e e' : Ending} {w : World} (he : e = e') (h : PickOf hs e' w) (k : Nat) : PickOf hs e (w.drewN k) := by
  subst he
  unfold PickOf at h ⊢
  cases ho : overs hs 3 with
  | nil => rw [ho] at h; exact h
  | cons lv rest =>
    rw [ho] at h
    obtain ⟨v, h1, A, c, h2, h3, h4, h5⟩ := h
    exact ⟨v, h1, A, c, h2, h3, h4, h5.drewN k⟩

set_option maxHeartbeats 2000000 in
theorem pick_any (hs : List Hv) (A : Option Addr) (n c : Nat) (hn : n ≤ 1000) (w : World) (h : Helds w.heap.size w A n hs) :
    Calls Try.prog 11 #[.slice A n c] w fun e w' => PickOf hs e w' ∧ Below w.heap.size w w' := by
  obtain ⟨i0, hi0, hz0, hz1, hz2⟩ := info_parts info3_
  have hhl := h.len
  cases ho : overs hs 3 with
  | nil =>
    have HO := Lib.hid ho
    clear ho
    have g0 : Below w.heap.size w (w.alloc (.cells #[.slice A n c] 22)) := (Below.refl _ _).alloc (Nat.le_refl _) _
    go_enter Try.func11, Try.ntmps11
    go_wp2_with fail
    refine (overs_any hs A n c hn _ ((h.below g0).up g0.size).hrow).mono ?_
    rw [HO.out]
    rintro e w1 ⟨⟨v, rfl, A1, c1, rfl, -⟩, hb1⟩
    go_wp2
    go_ret3
    refine ⟨?_, later_ g0 hb1⟩
    unfold PickOf
    rw [HO.out]
    rfl
  | cons lv rest =>
    obtain ⟨hlv0, hlv2, hov⟩ := overs_mem ho
    have hF := first_lt hlv0 hlv2 hov
    rw [h.len] at hF
    have HO := Lib.hid ho
    have HV := Lib.hid hov
    have HL := Lib.hid hhl
    clear ho hov hhl
    have g0 : Below w.heap.size w (w.alloc (.cells #[.slice A n c] 22)) := (Below.refl _ _).alloc (Nat.le_refl _) _
    go_enter Try.func11, Try.ntmps11
    go_wp2_with fail
    refine (overs_any hs A n c hn _ ((h.below g0).up g0.size).hrow).mono ?_
    rw [HO.out]
    rintro e w1 ⟨⟨v, rfl, A1, c1, rfl, -, -, hrow⟩, hb1⟩
    have hz1 := later_ g0 hb1
    have hs1 : w1.cell? ⟨w.heap.size, 0, none⟩ = some (.slice A n c) := by rw [hb1.cell (by simp), World.cell?_alloc_at _ _ _ _ rfl]; rfl
    obtain ⟨a1, v1, rfl, ha1, hv1, hc1⟩ := hrow.at1 (k := 0) (by simp)
    obtain rfl : v1 = .int .i64 lv := by simpa [ints] using hv1.symm
    rw [add_zero_] at hc1
    have t0 : ((rest.length : Int) + 1 == 0) = false := beq_eq_false_iff_ne.2 (by omega)
    have s0 : ∀ o, (w1.alloc o).cell? ⟨w.heap.size, 0, none⟩ = some (.slice A n c) := fun o => (World.cell?_alloc_lt w1 o _ (World.block_lt_of_cell? _ _ hs1)).trans hs1
    clear hb1 hv1 hrow
    go_wp2_with fail
    clear s0
    have g1 := hz1.alloc hz1.size (.cells #[.int .i64 lv] 3)
    refine (first_any hs A n c hn ⟨w1.heap.size, 0, none⟩ lv _ ((h.below g1).up g1.size) (by rw [World.cell?_alloc_at _ _ _ _ rfl]; rfl) hF).mono ?_
    rintro e w2 ⟨rfl, hb2⟩
    have hz2' := later_ g1 hb2
    have s1 : w2.cell? ⟨w.heap.size, 0, none⟩ = some (.slice A n c) := by
      have := hz1.size
      rw [hb2.cell (by simp; omega), World.cell?_alloc_lt _ _ _ (World.block_lt_of_cell? _ _ hs1), hs1]
    have s2 : w2.cell? ⟨w1.heap.size, 0, none⟩ = some (.int .i64 lv) := by
      rw [hb2.cell (by simp), World.cell?_alloc_at _ _ _ _ rfl]
      rfl
    have q1 : w.heap.size < w2.heap.size := World.block_lt_of_cell? _ _ s1
    have q2 : w1.heap.size < w2.heap.size := World.block_lt_of_cell? _ _ s2
    have s0 : ∀ o, (w2.alloc o).cell? ⟨w.heap.size, 0, none⟩ = some (.slice A n c) := fun o => (World.cell?_alloc_lt w2 o _ (World.block_lt_of_cell? _ _ s1)).trans s1
    clear hs1 hb2 hc1 ha1 g1 g0 t0
    go_wp2_with fail
    clear s0
    have s1' := (World.cell?_alloc_lt w2 (.cells #[.int .i64 (firstAt hs lv : Int)] 3) _ q1).trans s1
    have s2' := (World.cell?_alloc_lt w2 (.cells #[.int .i64 (firstAt hs lv : Int)] 3) _ q2).trans s2
    have s3' : (w2.alloc (.cells #[.int .i64 (firstAt hs lv : Int)] 3)).cell? ⟨w2.heap.size, 0, none⟩ = some (.int .i64 (firstAt hs lv : Int)) := by rw [World.cell?_alloc_at _ _ _ _ rfl]; rfl
    have hz := hz2'.alloc hz2'.size (.cells #[.int .i64 (firstAt hs lv : Int)] 3)
    have q3 : w2.heap.size < (w2.alloc (.cells #[.int .i64 (firstAt hs lv : Int)] 3)).heap.size := by simp
    have q1' : w.heap.size < (w2.alloc (.cells #[.int .i64 (firstAt hs lv : Int)] 3)).heap.size := by simp; omega
    have q2' : w1.heap.size < (w2.alloc (.cells #[.int .i64 (firstAt hs lv : Int)] 3)).heap.size := by simp; omega
    generalize (w2.alloc (.cells #[.int .i64 (firstAt hs lv : Int)] 3)) = W at *
    have hW : Helds W.heap.size W A n hs := (h.below hz).up hz.size
    clear s1 s2 q1 q2 hz1 hz2' h q1' q2' q3
    generalize w2.heap.size = P3 at *
    generalize w1.heap.size = P2 at *
    clear w1 w2
    go_loopw [2, 28] (fun v i wr => ∃ k : Nat, k ≤ n ∧ i = .int .i64 (k : Int) ∧ Owns W.heap.size (picks hs lv k) wr v ∧ Below W.heap.size W wr) (fun _ i _ => n - (intOf i).toNat)
    case atStart => exact ⟨0, Nat.zero_le _, rfl, World.ownsRow_nil W W.heap.size 3 1, Below.refl _ _⟩
    case round =>
      obtain ⟨k, hk, rfl, ho, hb⟩ := hrel
      obtain ⟨A1, c1, rfl, hlc, hcm, -⟩ := own_form ho
      have r1 := cell_keep s1' hb
      have r2 := cell_keep s2' hb
      have r3 := cell_keep s3' hb
      clear s1' s2' s3'
      by_cases hlt : k < n
      · have hH : Helds wr.heap.size wr A n hs := (hW.below hb).up hb.size
        obtain ⟨a, hl, rfl, ⟨hbk, d0, d1, d2, d3, d4⟩, hok⟩ := hH.at_ hlt
        have E1 := Lib.hid (picks_succ hs lv k)
        have hle := picks_le hs lv k
        have hx := getD_lt hs hv0 hl
        have HX := Lib.hid hx
        clear hx
        have u1 := fun o => cell_up r1 o
        generalize hs[k] = x at *
        go_wp2_with fail
        have hV : Below W.heap.size W (wr.alloc (boxOf x)) := hb.alloc hb.size _
        have v1 := cell_up r1 (boxOf x)
        have v2 := cell_up r2 (boxOf x)
        have v3 := cell_up r3 (boxOf x)
        have vb := Box.new wr x
        have vH : Helds (wr.alloc (boxOf x)).heap.size (wr.alloc (boxOf x)) (some a) n hs := (hW.below hV).up hV.size
        have vo : Owns W.heap.size (picks hs lv k) (wr.alloc (boxOf x)) (Value.slice A1 (picks hs lv k).length c1) := ho.alloc _
        have vok : x.ok (wr.alloc (boxOf x)).heap.size (wr.alloc (boxOf x)) := (hok.keep fun p hp => World.cell?_alloc_lt wr _ p hp).up (by simp)
        clear u1 r1 r2 r3 d0 d1 d2 d3 d4 hok hbk hH ho hb
        change Code.wp _ _ _ _ (wr.alloc (boxOf x))
        generalize wr.alloc (boxOf x) = V at *
        generalize wr.heap.size = PX at *
        clear wr
        go_loopw [11, 35] (fun t j wr => ∃ m : Nat, m ≤ n ∧ j = .int .i64 (m : Int) ∧ t = .bool (touchedTo hs lv x m) ∧ Below V.heap.size V wr) (fun _ j _ => n - (intOf j).toNat)
        case atStart => exact ⟨0, Nat.zero_le _, rfl, rfl, Below.refl _ _⟩
        case round =>
          obtain ⟨m, hm, rfl, rfl, hb⟩ := hrel
          have r1 := cell_keep v1 hb
          have r2 := cell_keep v2 hb
          have r3 := cell_keep v3 hb
          have rb := vb.below hb
          by_cases hltm : m < n
          · have hH : Helds wr.heap.size wr (some a) n hs := (vH.below hb).up hb.size
            obtain ⟨ay, hly, hay, ⟨hbk, d0, d1, d2, d3, d4⟩, hok⟩ := hH.at_ hltm
            obtain rfl : a = ay := by simpa using hay
            have E2 := Lib.hid (touchedTo_succ hs lv x m)
            have hy := getD_lt hs hv0 hly
            have HY := Lib.hid hy
            clear hy hay
            generalize hs[m] = y at *
            have hU : Below V.heap.size V (wr.alloc (boxOf y)) := hb.alloc hb.size _
            cases hT : touchedTo hs lv x m
            · cases hf : fromB hs lv m
              · have HT := Lib.hid hT
                have HFm := Lib.hid hf
                clear hT hf
                go_wp2_with fail
                refine (from_any hs (some a) n c _ _ _ lv m _ ((vH.below hU).up hU.size) hltm (cell_up r1 _) (cell_up r2 _) (cell_up r3 _) hF).mono ?_
                rintro e w3 ⟨rfl, hb3⟩
                rw [HFm.out]
                go_wp2_with fail
                go_roundw
                case rel => exact ⟨m + 1, hltm, by go_num, by rw [E2.out, HT.out, HFm.out]; rfl, later_ hU hb3⟩
                case measure => simp [intOf]; omega
              · have HT := Lib.hid hT
                have HFm := Lib.hid hf
                clear hT hf
                go_wp2_with fail
                refine (from_any hs (some a) n c _ _ _ lv m _ ((vH.below hU).up hU.size) hltm (cell_up r1 _) (cell_up r2 _) (cell_up r3 _) hF).mono ?_
                rintro e w3 ⟨rfl, hb3⟩
                rw [HFm.out]
                have hz3 := later_ hU hb3
                have by3 := (Box.new wr y).below hb3
                have bx3 := vb.below hz3
                have oky3 : y.ok w3.heap.size w3 := ((hok.keep fun p hp => World.cell?_alloc_lt wr (boxOf y) p hp).up (by simp)).below hb3 |>.up hb3.size
                have okx3 : x.ok w3.heap.size w3 := (vok.below hz3).up hz3.size
                obtain ⟨y0, y1, y2, y3, y4⟩ := by3
                obtain ⟨x0, x1, x2, x3, x4⟩ := bx3
                clear d0 d1 d2 d3 d4 r1 r2 r3 rb hH
                go_wp2_with fail
                refine (touch_any x.hd y.hd _ _ _ _ _ _ _ _ _ _ _ _ _ okx3.first okx3.last oky3.first oky3.last).mono ?_
                rintro e w4 ⟨rfl, hb4⟩
                go_wp2_with fail
                go_roundw
                case rel => exact ⟨m + 1, hltm, by go_num, by rw [E2.out, HT.out, HFm.out, HY.out]; simp, later_ hz3 hb4⟩
                case measure => simp [intOf]; omega
            · have HT := Lib.hid hT
              clear hT
              go_wp2_with fail
              go_roundw
              case rel => exact ⟨m + 1, hltm, by go_num, by rw [E2.out, HT.out]; rfl, hU⟩
              case measure => simp [intOf]; omega
          · obtain rfl : m = n := by omega
            have HLn : hs.length = m := HL.out
            cases hf : fromB hs lv k
            · by_cases hlev : x.hd.level = lv + 1
              · cases hT : touchedTo hs lv x m
                · have BP : Hid (pickB hs lv k = false) := by unfold pickB; rw [hf, HX.out, HLn, hT]; simp [Lib.hid]
                  have HT := Lib.hid hT
                  clear hT HLn
                  have HFm := Lib.hid hf
                  clear hf
                  go_wp2_with fail
                  refine (from_any hs (some a) m c _ _ _ lv k _ ((vH.below hb).up hb.size) hlt r1 r2 r3 hF).mono ?_
                  rintro e w3 ⟨rfl, hb3⟩
                  rw [HFm.out]
                  have hz3 := later_ hb hb3
                  have hWz := later_ hV hz3
                  have vo3 := own_below vo hz3
                  obtain ⟨x0, x1, x2, x3, x4⟩ := vb.below hz3
                  rw [hlev] at x1
                  have HLEV := Lib.hid hlev
                  clear hlev
                  have s2 := cell_keep v2 hz3
                  clear r1 r2 r3 rb v1 v2 v3 hb3
                  go_wp2_with fail
                  go_roundw
                  case rel => exact ⟨k + 1, hlt, by go_num, by rw [E1.out, if_neg (by rw [BP.out]; decide), List.append_nil]; exact vo3, hWz⟩
                  case measure => simp [intOf]; omega
                · have BP : Hid (pickB hs lv k = true) := by unfold pickB; rw [hf, HX.out, HLn, hT, hlev]; simp [Lib.hid]
                  have HT := Lib.hid hT
                  clear hT HLn
                  have HFm := Lib.hid hf
                  clear hf
                  go_wp2_with fail
                  refine (from_any hs (some a) m c _ _ _ lv k _ ((vH.below hb).up hb.size) hlt r1 r2 r3 hF).mono ?_
                  rintro e w3 ⟨rfl, hb3⟩
                  rw [HFm.out]
                  have hz3 := later_ hb hb3
                  have hWz := later_ hV hz3
                  have vo3 := own_below vo hz3
                  obtain ⟨x0, x1, x2, x3, x4⟩ := vb.below hz3
                  rw [hlev] at x1
                  have HLEV := Lib.hid hlev
                  clear hlev
                  have s2 := cell_keep v2 hz3
                  clear r1 r2 r3 rb v1 v2 v3 hb3
                  go_wp2_with (at_builtin; refine stop_in ?_)
                  refine stop_out (wpList_app rfl (.tmp 65) (.tmp 68) _ rfl W.heap.size 3 i0 _ 1 8 Try.underlying28 hi0 hz0 hz1 hz2 rfl (by omega) W (hWz.alloc hWz.size _) (by have := hWz.size; simp; omega) _ _ _ rfl (vo3.alloc _) (w3.heap.size + 1) _ 1 1 (ints [x.hd.num]) rfl (Row.new w3 _ _ rfl) (ints_one _) _ _ rfl rfl (by unfold maxLen; omega) (by omega) ?_)
                  intro A3 c3 w4 ho4 hb4 _ hc4 hm4
                  go_wp2_with fail
                  go_roundw
                  case rel => exact ⟨k + 1, hlt, by go_num, by rw [E1.out, if_pos BP.out, HX.out]; unfold Owns; rw [ints_append, List.length_append]; exact ho4, hb4⟩
                  case measure => simp [intOf]; omega
              · have BP : Hid (pickB hs lv k = false) := by unfold pickB; rw [hf, HX.out]; simp [Lib.hid, hlev]
                have hlev' : (x.hd.level == lv + 1) = false := beq_eq_false_iff_ne.2 hlev
                clear HLn
                have HFm := Lib.hid hf
                clear hf
                go_wp2_with fail
                refine (from_any hs (some a) m c _ _ _ lv k _ ((vH.below hb).up hb.size) hlt r1 r2 r3 hF).mono ?_
                rintro e w3 ⟨rfl, hb3⟩
                rw [HFm.out]
                have hz3 := later_ hb hb3
                have hWz := later_ hV hz3
                have vo3 := own_below vo hz3
                obtain ⟨x0, x1, x2, x3, x4⟩ := vb.below hz3
                have s2 := cell_keep v2 hz3
                clear r1 r2 r3 rb v1 v2 v3 hb3
                go_wp2_with fail
                go_roundw
                case rel => exact ⟨k + 1, hlt, by go_num, by rw [E1.out, if_neg (by rw [BP.out]; decide), List.append_nil]; exact vo3, hWz⟩
                case measure => simp [intOf]; omega
            · have BP : Hid (pickB hs lv k = true) := by unfold pickB; rw [hf]; simp [Lib.hid]
              clear HLn
              have HFm := Lib.hid hf
              clear hf
              go_wp2_with fail
              refine (from_any hs (some a) m c _ _ _ lv k _ ((vH.below hb).up hb.size) hlt r1 r2 r3 hF).mono ?_
              rintro e w3 ⟨rfl, hb3⟩
              rw [HFm.out]
              have hz3 := later_ hb hb3
              have hWz := later_ hV hz3
              have vo3 := own_below vo hz3
              obtain ⟨x0, x1, x2, x3, x4⟩ := vb.below hz3
              have s2 := cell_keep v2 hz3
              clear r1 r2 r3 rb v1 v2 v3 hb3
              go_wp2_with (at_builtin; refine stop_in ?_)
              refine stop_out (wpList_app rfl (.tmp 65) (.tmp 68) _ rfl W.heap.size 3 i0 _ 1 8 Try.underlying28 hi0 hz0 hz1 hz2 rfl (by omega) W (hWz.alloc hWz.size _) (by have := hWz.size; simp; omega) _ _ _ rfl (vo3.alloc _) (w3.heap.size + 1) _ 1 1 (ints [x.hd.num]) rfl (Row.new w3 _ _ rfl) (ints_one _) _ _ rfl rfl (by unfold maxLen; omega) (by omega) ?_)
              intro A3 c3 w4 ho4 hb4 _ hc4 hm4
              go_wp2_with fail
              go_roundw
              case rel => exact ⟨k + 1, hlt, by go_num, by rw [E1.out, if_pos BP.out, HX.out]; unfold Owns; rw [ints_append, List.length_append]; exact ho4, hb4⟩
              case measure => simp [intOf]; omega
      · obtain rfl : k = n := by omega
        have fin : PickOf hs (.returned (.tuple #[.slice A1 (picks hs lv k).length c1, .int .i64 (lv + 1), .bool true])) wr := by
          unfold PickOf
          rw [HO.out]
          exact ⟨_, rfl, by rw [HL.out]; exact ho.gives⟩
        have FIN := Lib.hid fin
        clear fin
        go_wp2
        go_quiet (fail)
        go_wp2
        go_ret3
        exact ⟨pick_ret rfl FIN.out _, later_ hz (below_drewN hb _)⟩
end Go.Proofs.Ytfbollkafcdfhaa
