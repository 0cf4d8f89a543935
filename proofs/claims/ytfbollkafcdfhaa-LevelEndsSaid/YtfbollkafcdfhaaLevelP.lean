/-
  The walk of the law LevelEnds.
-/
import Derived.Test.YtfbollkafcdfhaaPlainEnds
import Derived.StillTailTactics
import Derived.Deep.DeepCutAuto
import Derived.Deep.CutBlock
namespace Go.Proofs.Ytfbollkafcdfhaa
open Go.RowKit

theorem row_boxP (w : World) (x : Hv) : Row (w.heap.size + 1) (w.alloc (boxOf x)) (some ⟨w.heap.size, 0, none⟩) 1 5 x.cs := by
  have := Row.new (n := 1) (size := 5) w x.cs.toArray 27 rfl
  change Row _ (w.alloc (.cells x.cs.toArray 27)) _ _ _ _
  simpa using this
/-- The file that is being made, in a block of its own. -/
def Made (base PM : Nat) (y : Hv) (w : World) : Prop := w.ownsRow base 27 5 (.slice (some ⟨PM, 0, none⟩) 1 1) 1 y.cs
structure MadeAt (base PM : Nat) (y : Hv) (w : World) : Prop where
  own : Made base PM y w
  ok : y.ok PM w
  lt : PM < w.heap.size
variable {base PM : Nat} {y : Hv} {w w' : World}
theorem Made.cell (h : Made base PM y w) {j : Nat} {v : Value} (hj : y.cs[j]? = some v) : w.cell? ⟨PM, j, none⟩ = some v := by
  have hl : j < y.cs.length := (List.getElem?_eq_some_iff.1 hj).1
  have := World.ownsRow.cellAt h j (by simpa [Hv.cs] using hl)
  rw [this, hj]
theorem Made.free (h : Made base PM y w) (j : Nat) : w.frozen? ⟨PM, j, none⟩ = false := World.ownsRow.frozenAt h j
theorem MadeAt.drewN (h : MadeAt base PM y w) (k : Nat) : MadeAt base PM y (w.drewN k) := ⟨h.own, ⟨h.ok.first.drewN k, h.ok.last.drewN k⟩, h.lt⟩
theorem MadeAt.store (h : MadeAt base PM y w) {y' : Hv} {j : Nat} {v : Value} (hy : y.cs.set j v = y'.cs) (hok : y'.ok PM w) : MadeAt base PM y' (w.setCell ⟨PM, j, none⟩ v) := by
  refine ⟨?_, ⟨hok.first.setCell (Nat.le_refl _) _, hok.last.setCell (Nat.le_refl _) _⟩, by simpa [World.setCell] using h.lt⟩
  have := (World.ownsRow.stored (w := w) h.own j v).1
  rw [hy] at this
  exact this
theorem own_lt {A : Option Addr} {m c b B : Nat} (h : ∀ a, A = some a → a.block < B) (e : (Value.slice A m c).ownBlock = some b) : b < B := by
  cases A with
  | none => cases e
  | some a =>
    simp only [Value.ownBlock, Option.some.injEq] at e
    subst e
    exact h a rfl
theorem newE_kept {w : World} {A : Option Addr} {m c k j : Nat} {e : Int} {V1 V2 : Value} (hk : k < 256) (hj : j < 256) (h1 : V1 = .int .u8 (k : Int)) (h2 : V2 = .int .u8 (j : Int)) (h : ∀ a, A = some a → a.block < w.heap.size) (o : Obj) :
    Kept (((w.alloc (.cells #[V1] 5)).alloc (.cells #[V2] 5)).alloc o) (.slice A m c) (newE w k e (UInt8.ofNat k) (UInt8.ofNat j)) := by
  subst h1 h2
  have g1 : (((w.alloc (.cells #[.int .u8 (k : Int)] 5)).alloc (.cells #[.int .u8 (j : Int)] 5)).alloc o).cell? ⟨w.heap.size, 0, none⟩ = some (.int .u8 (k : Int)) := by
    refine cell_up (cell_up ?_ _) _
    rw [World.cell?_alloc_at _ _ _ _ rfl]
    rfl
  have g2 : (((w.alloc (.cells #[.int .u8 (k : Int)] 5)).alloc (.cells #[.int .u8 (j : Int)] 5)).alloc o).cell? ⟨w.heap.size + 1, 0, none⟩ = some (.int .u8 (j : Int)) := by
    refine cell_up ?_ _
    rw [World.cell?_alloc_at _ _ _ _ (by simp)]
    rfl
  refine ⟨⟨row_key hk g1, row_key hj g2⟩, ?_, ?_⟩
  · intro a ha
    obtain rfl : (⟨w.heap.size, 0, none⟩ : Addr) = a := by simpa [newE] using ha
    refine ⟨fun e => ?_, by simp; omega⟩
    exact absurd (own_lt h e.symm) (by simp)
  · intro a ha
    obtain rfl : (⟨w.heap.size + 1, 0, none⟩ : Addr) = a := by simpa [newE] using ha
    refine ⟨fun e => ?_, by simp⟩
    exact absurd (own_lt h e.symm) (by simp)

set_option linter.unusedSimpArgs false
set_option maxRecDepth 100000 in
set_option maxHeartbeats 8000000 in
theorem levelEnds_walk (A : Option Addr) (n c : Nat) (l : List Int) (w : World) (_hn : n ≤ 9223372036854775807) (h : Row w.heap.size w A n 1 (ints l)) (hl64 : ∀ x ∈ l, -9223372036854775808 ≤ x ∧ x ≤ 9223372036854775807) :
    Calls Try.prog 8 #[.slice A n c] w fun e w' => e = .returned (.bool true) ∧ Below w.heap.size w w' := by
  obtain ⟨j0, hj0, hj1, hj2, hj3⟩ := info_parts info27_
  go_enter Try.func8, Try.ntmps8
  go_upto_block 0 with (fail)
  go_cut [3, 4] (fun v s wr => ∃ (k : Nat) (hs : List Hv), k ≤ 30 ∧ Begun k hs ∧ s = .int .i64 (sumE hs) ∧ OwnsH w.heap.size hs wr v ∧ Hid (∀ x ∈ hs, Kept wr v x) ∧ Below w.heap.size w wr)
  case first =>
    go_wp2_with fail
    go_loopw [3, 4, 5] (fun v s i wr => ∃ (k : Nat) (hs : List Hv), k ≤ n ∧ k ≤ 30 ∧ i = .int .i64 (k : Int) ∧ Begun k hs ∧ s = .int .i64 (sumE hs) ∧ OwnsH w.heap.size hs wr v ∧ Hid (∀ x ∈ hs, Kept wr v x) ∧ Below w.heap.size w wr) (fun _ _ i _ => 30 - (intOf i).toNat)
    case atStart => exact ⟨0, [], Nat.zero_le _, by omega, rfl, ⟨rfl, (fun _ h => absurd h (by simp)), fun i hi => absurd hi (Nat.not_lt_zero _)⟩, rfl, World.ownsRow_nil w w.heap.size 27 5, Lib.hid (fun _ h => absurd h (by simp)), Below.refl _ _⟩
    case round =>
      obtain ⟨k, hs, hk, hk30, rfl, hbg, rfl, ho, HK, hb⟩ := hrel
      obtain ⟨A1, c1, rfl, hlc, hcm, hbase⟩ := own_form ho
      have hbl : hs.length ≤ 30 := by rw [hbg.len]; exact hk30
      have hbs := hbg.sum
      by_cases hlt : k < n
      · by_cases hlt2 : k < 30
        · obtain ⟨a, hl, rfl, hba, hc⟩ := (h.below hb).int hlt
          have hx := hl64 l[k] (List.getElem_mem hl)
          generalize l[k] = x at *
          have hc1 := fun o => cell_up hc o
          obtain ⟨m6, hm6, hm61⟩ := and_mask x 6 (by omega)
          have hm6' : bits .and .i64 x 63 = (m6 : Int) := hm6
          clear hm6
          obtain ⟨m3, hm3, hm31⟩ := and_mask (x / 64) 2 (by omega)
          have hm3' : bits .and .i64 (x / 64) 3 = (m3 : Int) := hm3
          clear hm3
          have hlb : ∀ a', A1 = some a' → a'.block < wr.heap.size := fun a' e => (hbase a' e).2.1
          have hsz := hb.size
          go_wp2_with (at_builtin; refine stop_in ?_)
          refine stop_out (wpList_appF rfl (.tmp 34) (.tmp 52) _ rfl w.heap.size 27 j0 _ 5 72 Try.underlying22 hj0 hj1 hj2 hj3 rfl (by omega) w (((hb.alloc hb.size _).alloc (by simp; omega) _).alloc (by simp; omega) _) (by simp; omega) _ _ _ rfl (((ho.alloc _).alloc _).alloc _)
            (wr.heap.size + 1 + 1 + 1) _ 1 1 (by omega) ([newE wr k ((m6 : Int) + 1) (UInt8.ofNat k) (UInt8.ofNat (k + m3))].flatMap Hv.cs) rfl (by have := Row.new (n := 1) (size := 5) ((wr.alloc (.cells #[.int .u8 (k : Int)] 5)).alloc (.cells #[.int .u8 ((k : Int) + (m3 : Int))] 5)) (newE wr k ((m6 : Int) + 1) (UInt8.ofNat k) (UInt8.ofNat (k + m3))).cs.toArray 27 rfl; simpa [newE, Hv.cs] using this) (cs_one _) _ _ rfl rfl (by unfold maxLen; omega) (by omega) ?_)
          intro A3 c3 w3 ho3 hb3 hg3 hc3 hm3 hw3
          have HK3 : Hid (∀ y ∈ hs ++ [newE wr k ((m6 : Int) + 1) (UInt8.ofNat k) (UInt8.ofNat (k + m3))], Kept w3 (.slice A3 (hs.length + 1) c3) y) := Lib.hid (by
            intro y hy
            rcases List.mem_append.1 hy with hy | hy
            · exact ((((HK.out y hy).alloc _).alloc _).alloc _).step hg3 hw3
            · obtain rfl := List.mem_singleton.1 hy
              exact (newE_kept (by omega) (by omega) rfl (by simp) hlb _).step hg3 hw3)
          have hbg3 : Begun (k + 1) (hs ++ [newE wr k ((m6 : Int) + 1) (UInt8.ofNat k) (UInt8.ofNat (k + m3))]) := hbg.step rfl (by show (1 : Int) ≤ (m6 : Int) + 1; omega) (by show (m6 : Int) + 1 ≤ 64; omega) rfl
          have hs3 := sumE_snoc hs (newE wr k ((m6 : Int) + 1) (UInt8.ofNat k) (UInt8.ofNat (k + m3)))
          have HS3 := Lib.hid hs3
          have HBG3 := Lib.hid hbg3
          clear hs3 hbg3 ho hc hc1 hbg
          go_wp2_with fail
          go_roundw
          case rel => exact ⟨k + 1, _, hlt, hlt2, by go_num, HBG3.out, by rw [HS3.out]; rfl, by unfold OwnsH; rw [List.length_append, List.flatMap_append]; exact ho3, HK3, hb3⟩
          case measure => simp [intOf]; omega
        · go_wp2_with fail
          go_meet
          case rel => exact ⟨k, hs, hk30, hbg, rfl, ho, HK, hb⟩
      · go_wp2_with fail
        go_meet
        case rel => exact ⟨k, hs, hk30, hbg, rfl, ho, HK, hb⟩
  case rest =>
    obtain ⟨k, hs, hk30, hbg, rfl, ho, HK, hb⟩ := hcut
    have hst := hbg.atLev hk30
    have hs0 := hbg.sum
    have htot : 0 ≤ sumE hs ∧ sumE hs ≤ 1920 := by omega
    obtain ⟨A1, c1, rfl, -, -, -⟩ := own_form ho
    have hHe : Helds wc.heap.size wc A1 hs.length hs := ⟨rfl, (OwnsH.hrow ho).row, fun x hx => (HK.out x hx).ok⟩
    generalize sumE hs = tot at *
    clear ho HK hbg hs0
    go_wp2_with fail
    go_loopw [3, 7, 8] (fun v z i wr => ∃ (t : Nat) (hs : List Hv) (A1 : Option Addr) (c1 : Nat) (zz : Int), t ≤ 2 ∧ i = .int .i64 (t : Int) ∧ z = .int .i64 zz ∧ Hid (AtLev t tot hs) ∧ v = .slice A1 hs.length c1 ∧ Helds wr.heap.size wr A1 hs.length hs ∧ Below w.heap.size w wr) (fun _ _ i _ => 3 - (intOf i).toNat)
    case atStart => exact ⟨0, hs, A1, c1, _, by omega, rfl, rfl, Lib.hid hst, rfl, hHe, hb⟩
    case round =>
      clear hst hHe hb hk30
      obtain ⟨t, hs, A1, c1, zz, ht, rfl, rfl, HST, rfl, hH, hb⟩ := hrel
      have hfew := HST.out.few
      have ht100 : (t : Int) < 100 := by omega
      have hov := HST.out.overs ht htot.2
      go_wp2_with fail
      refine (pick_any hs A1 hs.length c1 (by omega) _ hH).mono ?_
      rintro e w2 ⟨hp, hb2⟩
      have hz := later_ hb hb2
      have hH2 := (hH.below hb2).up hb2.size
      clear hb hb2 hH
      rcases hov with ho | ⟨ho, ht2, hob⟩
      · unfold PickOf at hp
        rw [ho] at hp
        subst hp
        have HO := Lib.hid ho
        clear ho
        have hZ : ∃ Z : Nat → Nat, Z 0 = 0 ∧ (∀ k, k < hs.length → Z (k + 1) = Z k + if t = 0 then 1 else 0) ∧ Z hs.length < 4 ∧ ∀ k, Z k ≤ k := by
          by_cases h0 : t = 0
          · subst h0
            exact ⟨fun k => k, rfl, fun k _ => by simp, HST.out.zero HO.out, fun k => Nat.le_refl k⟩
          · exact ⟨fun _ => 0, rfl, fun k _ => by rw [if_neg h0], by show 0 < 4; omega, fun k => Nat.zero_le k⟩
        obtain ⟨Z, hZ0, hZs, hZ4, hZk⟩ := hZ
        have HZS := Lib.hid hZs
        have HZ0 := Lib.hid hZ0
        clear hZs hZ0
        go_wp2_with fail
        go_loopw [12, 13, 14] (fun s z i wr => ∃ k : Nat, k ≤ hs.length ∧ i = .int .i64 (k : Int) ∧ s = .int .i64 (sumE (hs.take k)) ∧ z = .int .i64 ((Z k : Nat) : Int) ∧ w2 = wr) (fun _ _ i _ => hs.length - (intOf i).toNat)
        case atStart => exact ⟨0, Nat.zero_le _, rfl, rfl, by rw [HZ0.out]; rfl, rfl⟩
        case round =>
          obtain ⟨k, hk, rfl, rfl, rfl, rfl⟩ := hrel
          have hbs := sum_take_le (fun x hx => (HST.out.lev x hx).2) k
          rw [HST.out.sum] at hbs
          have hzk := hZk k
          by_cases hlt : k < hs.length
          · obtain ⟨a, hl, rfl, hat, hok⟩ := hH2.at_ hlt
            have hst1 := sum_take hl
            have hzs1 := HZS.out k hlt
            have hlev := (HST.out.lev _ (List.getElem_mem hl)).1
            have hbs1 := sum_take_le (fun x hx => (HST.out.lev x hx).2) (k + 1)
            rw [HST.out.sum, hst1] at hbs1
            have HS1 := Lib.hid hst1
            have HZ1 := Lib.hid hzs1
            clear hst1 hzs1
            generalize hs[k] = x at *
            generalize sumE (hs.take k) = sk at *
            generalize Z k = zk at *
            obtain ⟨hbk, d0, d1, d2, d3, d4⟩ := hat
            rw [hlev] at d1
            have HLEV := Lib.hid hlev
            clear hlev
            by_cases h0 : t = 0
            · have h0' : ((t : Int) == 0) = true := by simp [h0]
              have H0 := Lib.hid h0
              clear h0
              go_wp2_with fail
              go_roundw
              case rel => exact ⟨k + 1, hlt, by go_num, by rw [HS1.out], by rw [HZ1.out, if_pos H0.out]; rfl, by first | exact rfl | trivial⟩
              case measure => simp [intOf]; omega
            · have h0' : ((t : Int) == 0) = false := beq_eq_false_iff_ne.2 (by omega)
              have H0 := Lib.hid h0
              clear h0
              go_wp2_with fail
              go_roundw
              case rel => exact ⟨k + 1, hlt, by go_num, by rw [HS1.out], by rw [HZ1.out, if_neg H0.out]; rfl, by first | exact rfl | trivial⟩
              case measure => simp [intOf]; omega
          · obtain rfl : k = hs.length := by omega
            rw [List.take_length, HST.out.sum]
            have hz4 : ((Z hs.length : Nat) : Int) < 4 := by omega
            generalize Z hs.length = zn at *
            go_wp2_with fail
            refine (done_any hs A1 hs.length c1 (by omega) _ hH2.hrow).mono ?_
            rintro e w3 ⟨rfl, hb3⟩
            rw [HO.out]
            go_wp2_with fail
            refine (awake_any _).mono ?_
            rintro e w4 ⟨rfl, hb4⟩
            go_wp2
            go_ret
            exact ⟨rfl, later_ (later_ hz hb3) hb4⟩
      · unfold PickOf at hp
        rw [ho] at hp
        obtain ⟨v, rfl, A2, c2, rfl, hlc2, -, hg2⟩ := hp
        have hpos : 0 < hs.length := by
          have := first_lt (by omega) (by omega) hob
          omega
        have hP : Hid (picks hs (t : Int) hs.length = hs.map fun h => h.hd.num) := Lib.hid (HST.out.picks ht2)
        have hPl : (picks hs (t : Int) hs.length).length = hs.length := by rw [hP.out, List.length_map]
        have hPk : Hid (∀ k (hk : k < hs.length) (hk2 : k < (picks hs (t : Int) hs.length).length), (picks hs (t : Int) hs.length)[k] = hs[k].hd.num) := Lib.hid (by
          intro k hk hk2
          have := hP.out
          simp only [this, List.getElem_map])
        have hAf : Hid (∀ (y : Hv), afterL hs (picks hs (t : Int) hs.length) ((t : Int) + 1) [y] = [y.at_ ((t : Int) + 1)]) := Lib.hid (by
          intro y
          rw [hP.out]
          exact after_all)
        generalize picks hs (t : Int) hs.length = P at *
        rw [hPl] at hlc2 hg2 ⊢
        have HPL := Lib.hid hPl
        have t0 : ((hs.length : Int) == 0) = false := beq_eq_false_iff_ne.2 (by omega)
        have t1 : ¬ ((t : Int) + 1 < 1) := by omega
        have t2 : ¬ (3 < (t : Int) + 1) := by omega
        clear ho hob hPl
        go_wp2_with fail
        clear t0 t1 t2
        generalize decide ((t : Int) + 1 < 1) = dd1 at *
        generalize decide (3 < (t : Int) + 1) = dd2 at *
        have hV : Below w2.heap.size w2 ((w2.alloc (.cells #[.int .u8 255] 5)).alloc (boxOf ⟨⟨wrap64 (zz + 1), 0, [255], [], 0⟩, some ⟨w2.heap.size, 0, none⟩, 1, 1, none, 0, 0⟩)) := ((Below.refl _ _).alloc (Nat.le_refl _) _).alloc (by simp) _
        have hMd : MadeAt w2.heap.size (w2.heap.size + 1) ⟨⟨wrap64 (zz + 1), 0, [255], [], 0⟩, some ⟨w2.heap.size, 0, none⟩, 1, 1, none, 0, 0⟩ ((w2.alloc (.cells #[.int .u8 255] 5)).alloc (boxOf ⟨⟨wrap64 (zz + 1), 0, [255], [], 0⟩, some ⟨w2.heap.size, 0, none⟩, 1, 1, none, 0, 0⟩)) := by
          refine ⟨?_, ⟨?_, Row.nil_⟩, by simp⟩
          · have := World.ownsRow_lit (base := w2.heap.size) (e := 27) (size := 5) (w2.alloc (.cells #[.int .u8 255] 5)) (Hv.cs ⟨⟨wrap64 (zz + 1), 0, [255], [], 0⟩, some ⟨w2.heap.size, 0, none⟩, 1, 1, none, 0, 0⟩).toArray 1 (by simp) (by unfold maxLen; omega) rfl
            unfold Made
            simpa [Hv.cs] using this
          · have g : ((w2.alloc (.cells #[.int .u8 255] 5)).alloc (boxOf ⟨⟨wrap64 (zz + 1), 0, [255], [], 0⟩, some ⟨w2.heap.size, 0, none⟩, 1, 1, none, 0, 0⟩)).cell? ⟨w2.heap.size, 0, none⟩ = some (.int .u8 ((255 : UInt8).toNat : Int)) := by
              refine cell_up ?_ _
              rw [World.cell?_alloc_at _ _ _ _ rfl]
              rfl
            exact ⟨rfl, fun j hj => by
              obtain rfl : j = 0 := by simp [bts] at hj; omega
              exact ⟨_, rfl, by simp, g⟩⟩
        change Code.wp _ _ _ _ ((w2.alloc (.cells #[.int .u8 255] 5)).alloc (boxOf ⟨⟨wrap64 (zz + 1), 0, [255], [], 0⟩, some ⟨w2.heap.size, 0, none⟩, 1, 1, none, 0, 0⟩))
        generalize (w2.alloc (.cells #[.int .u8 255] 5)).alloc (boxOf ⟨⟨wrap64 (zz + 1), 0, [255], [], 0⟩, some ⟨w2.heap.size, 0, none⟩, 1, 1, none, 0, 0⟩) = V at *
        have hsz2 := hV.size
        generalize hPM : w2.heap.size + 1 = PM at *
        have hPM1 : w2.heap.size ≤ PM := by omega
        clear hPM
        go_loopw [16] (fun i wr => ∃ (i' : Nat) (y : Hv), i' ≤ hs.length ∧ i = .int .i64 (i' : Int) ∧ y.hd.len = sumE (hs.take i') ∧ MadeAt w2.heap.size PM y wr ∧ Below w2.heap.size w2 wr) (fun i _ => hs.length - (intOf i).toNat)
        case atStart => exact ⟨0, _, Nat.zero_le _, rfl, by simp [sumE], hMd, hV⟩
        case round =>
          clear hMd hV hsz2 V
          obtain ⟨i, y, hi, rfl, hyl, hMd, hb⟩ := hrel
          by_cases hlt : i < hs.length
          · have HYL := Lib.hid hyl
            clear hyl
            go_wp2_with fail
            go_loopw [17] (fun kk wr => ∃ (k : Nat) (y : Hv), k ≤ hs.length ∧ kk = .int .i64 (k : Int) ∧ Hid (y.hd.len = sumE (hs.take (if k ≤ i then i else i + 1))) ∧ MadeAt w2.heap.size PM y wr ∧ Below w2.heap.size w2 wr) (fun kk _ => hs.length - (intOf kk).toNat)
            case atStart => exact ⟨0, y, Nat.zero_le _, rfl, Lib.hid (by rw [if_pos (Nat.zero_le _)]; exact HYL.out), hMd, hb⟩
            case round =>
              clear hMd hb HYL
              obtain ⟨k, y, hk, rfl, HYL, hMd, hb⟩ := hrel
              obtain ⟨a, hl, rfl, ⟨hbk, d0, d1, d2, d3, d4⟩, hok⟩ := (hH2.below hb).at_ hlt
              by_cases hlt2 : k < hs.length
              · obtain ⟨b, hlb, rfl, hbb, hc5⟩ := (hg2.below hb).int hlt2
                rw [hPk.out k hlt2 hlb] at hc5
                have hi63 : (i : Int) < (hs.length : Int) := by omega
                have hk63 : (k : Int) < (hs.length : Int) := by omega
                by_cases hki : k = i
                · subst hki
                  rw [if_pos (Nat.le_refl _)] at HYL
                  have hst1 := sum_take hl
                  have hbs1 := sum_take_le (fun x hx => (HST.out.lev x hx).2) (k + 1)
                  have hbs0 := sum_take_le (fun x hx => (HST.out.lev x hx).2) k
                  have hx0 := (HST.out.lev _ (List.getElem_mem hl)).2
                  rw [HST.out.sum, hst1, ← HYL.out] at hbs1
                  rw [HST.out.sum, ← HYL.out] at hbs0
                  rw [← HYL.out] at hst1
                  have HS1 := Lib.hid hst1
                  have HN1 : Hid ((if k + 1 ≤ k then k else k + 1) = k + 1) := Lib.hid (by rw [if_neg (by omega)])
                  clear hst1
                  generalize hs[k] = x at *
                  have hee : (x.hd.num == x.hd.num) = true := by simp
                  have m4 : wr.cell? ⟨PM, 4, none⟩ = some (.int .i64 y.hd.len) := hMd.own.cell rfl
                  have f4 := hMd.own.free 4
                  go_wp2_with fail
                  go_quiet (fail)
                  go_wp2_with fail
                  have hMd0 := hMd.drewN nq
                  have hb0 := below_drewN hb nq
                  have hok0 : x.ok w2.heap.size (wr.drewN nq) := ⟨hok.first.drewN nq, hok.last.drewN nq⟩
                  have hat0 : At w2.heap.size (wr.drewN nq) a k x := ⟨hbk, d0, d1, d2, d3, d4⟩
                  clear d0 d1 d2 d3 d4 m4 f4 hMd hb hok hc5
                  generalize wr.drewN nq = W0 at *
                  obtain ⟨_, d0, d1, d2, d3, d4⟩ := hat0
                  have m4 : W0.cell? ⟨PM, 4, none⟩ = some (.int .i64 y.hd.len) := hMd0.own.cell rfl
                  have f4 := hMd0.own.free 4
                  go_still_tail 9, (by kernel_rfl)
                  change wpList _ _ _ _ _ (World.drew W0)
                  go_wp2_with fail
                  have hbW : Below w2.heap.size W0 (World.drew (W0.setCell ⟨PM, 4, none⟩ (.int .i64 (y.hd.len + x.hd.len)))) := below_drew ((Below.refl _ _).setCell hPM1 _)
                  have hMd1 : MadeAt w2.heap.size PM ({ y with hd := { y.hd with len := y.hd.len + x.hd.len } } : Hv) (World.drew (W0.setCell ⟨PM, 4, none⟩ (.int .i64 (y.hd.len + x.hd.len)))) :=
                    (hMd0.store (y' := ({ y with hd := { y.hd with len := y.hd.len + x.hd.len } } : Hv)) (j := 4) (v := .int .i64 (y.hd.len + x.hd.len)) rfl ⟨hMd0.ok.first, hMd0.ok.last⟩).drewN 1
                  have hb1 : Below w2.heap.size w2 (World.drew (W0.setCell ⟨PM, 4, none⟩ (.int .i64 (y.hd.len + x.hd.len)))) := hb0.trans hbW
                  have hok1 : x.ok w2.heap.size (World.drew (W0.setCell ⟨PM, 4, none⟩ (.int .i64 (y.hd.len + x.hd.len)))) := hok0.below hbW
                  have hat1 : At w2.heap.size (World.drew (W0.setCell ⟨PM, 4, none⟩ (.int .i64 (y.hd.len + x.hd.len)))) a k x := At.below ⟨hbk, d0, d1, d2, d3, d4⟩ hbW
                  clear hMd0 hb0 hok0 hbW d0 d1 d2 d3 d4 m4 f4
                  change Code.wp _ _ _ _ (World.drew (W0.setCell ⟨PM, 4, none⟩ (.int .i64 (y.hd.len + x.hd.len))))
                  generalize (World.drew (W0.setCell ⟨PM, 4, none⟩ (.int .i64 (y.hd.len + x.hd.len)))) = WA at *
                  have hat1' := hat1
                  obtain ⟨_, e0, e1, e2, e3, e4⟩ := hat1'
                  have m2 : WA.cell? ⟨PM, 2, none⟩ = some (.slice y.fa y.fn y.fc) := hMd1.own.cell rfl
                  have f2 := hMd1.own.free 2
                  have v1 := fun q => conv_str (hok1.first.drewN q) x.fc
                  have v2 := fun q => conv_str (n := y.fn) (l := y.hd.first) (hMd1.ok.first.drewN q) y.fc
                  cases hbf : Op.bytesLess x.hd.first y.hd.first
                  · go_wp2_with fail
                    go_quiet (fail)
                    go_wp2_with fail
                    have hMd2 : MadeAt w2.heap.size PM ({ y with hd := { y.hd with len := y.hd.len + x.hd.len } } : Hv) (WA.drewN nq) := hMd1.drewN nq
                    have hb2 : Below w2.heap.size w2 (WA.drewN nq) := below_drewN hb1 nq
                    have hok2 : x.ok w2.heap.size (WA.drewN nq) := ⟨hok1.first.drewN nq, hok1.last.drewN nq⟩
                    have hat2 : At w2.heap.size (WA.drewN nq) a k x := ⟨hat1.blk, hat1.c0, hat1.c1, hat1.c2, hat1.c3, hat1.c4⟩
                    clear hMd1 hb1 hok1 hat1 v1 v2 m2 f2 e0 e1 e2 e3 e4
                    generalize (WA.drewN nq) = WB at *
                    obtain ⟨_, e0, e1, e2, e3, e4⟩ := hat2
                    have m3 : WB.cell? ⟨PM, 3, none⟩ = some (.slice y.la y.ln y.lc) := hMd2.own.cell rfl
                    have f3 := hMd2.own.free 3
                    have v3 := fun q => conv_str (hok2.last.drewN q) x.lc
                    have v4 := fun q => conv_str (n := y.ln) (l := y.hd.last) (hMd2.ok.last.drewN q) y.lc
                    have hlB : x.ok PM WB := hok2.up hPM1
                    rcases (by cases Op.bytesLess x.hd.last y.hd.last <;> cases (x.hd.last == y.hd.last) <;> simp : Op.bytesLess x.hd.last y.hd.last = true ∨ (Op.bytesLess x.hd.last y.hd.last = false ∧ (x.hd.last == y.hd.last) = true) ∨ (Op.bytesLess x.hd.last y.hd.last = false ∧ (x.hd.last == y.hd.last) = false)) with hbl | ⟨hbl, hbe⟩ | ⟨hbl, hbe⟩
                    · go_wp2_with fail
                      go_quiet (fail)
                      go_wp2_with fail
                      go_roundw
                      case rel => exact ⟨k + 1, ({ y with hd := { y.hd with len := y.hd.len + x.hd.len } } : Hv), hlt2, by go_num, Lib.hid (by rw [HN1.out, HS1.out]), hMd2.drewN _, below_drewN hb2 _⟩
                      case measure => simp [intOf]; omega
                    · go_wp2_with fail
                      go_quiet (fail)
                      go_wp2_with fail
                      go_roundw
                      case rel => exact ⟨k + 1, ({ y with hd := { y.hd with len := y.hd.len + x.hd.len } } : Hv), hlt2, by go_num, Lib.hid (by rw [HN1.out, HS1.out]), hMd2.drewN _, below_drewN hb2 _⟩
                      case measure => simp [intOf]; omega
                    · go_wp2_with fail
                      go_quiet (fail)
                      go_wp2_with fail
                      have hMd3 := (hMd2.drewN nq).store (y' := ({ y with hd := { y.hd with len := y.hd.len + x.hd.len, last := x.hd.last }, la := x.la, ln := x.ln, lc := x.lc } : Hv)) (j := 3) (v := .slice x.la x.ln x.lc) rfl ⟨(hMd2.drewN nq).ok.first, hlB.last.drewN nq⟩
                      have hb3 := (below_drewN hb2 nq).setCell (p := ⟨PM, 3, none⟩) hPM1 (.slice x.la x.ln x.lc)
                      go_roundw
                      case rel => exact ⟨k + 1, ({ y with hd := { y.hd with len := y.hd.len + x.hd.len, last := x.hd.last }, la := x.la, ln := x.ln, lc := x.lc } : Hv), hlt2, by go_num, Lib.hid (by rw [HN1.out, HS1.out]), hMd3, hb3⟩
                      case measure => simp [intOf]; omega
                  · go_wp2_with fail
                    go_quiet (fail)
                    go_wp2_with fail
                    have hbX : Below w2.heap.size (WA.drewN nq) ((WA.drewN nq).setCell ⟨PM, 2, none⟩ (.slice x.fa x.fn x.fc)) := (Below.refl _ _).setCell hPM1 _
                    have hMd2 : MadeAt w2.heap.size PM ({ y with hd := { y.hd with len := y.hd.len + x.hd.len, first := x.hd.first }, fa := x.fa, fn := x.fn, fc := x.fc } : Hv) ((WA.drewN nq).setCell ⟨PM, 2, none⟩ (.slice x.fa x.fn x.fc)) := (hMd1.drewN nq).store (y' := ({ y with hd := { y.hd with len := y.hd.len + x.hd.len, first := x.hd.first }, fa := x.fa, fn := x.fn, fc := x.fc } : Hv)) (j := 2) (v := .slice x.fa x.fn x.fc) rfl ⟨(hok1.first.drewN nq).up hPM1, (hMd1.drewN nq).ok.last⟩
                    have hb2 : Below w2.heap.size w2 ((WA.drewN nq).setCell ⟨PM, 2, none⟩ (.slice x.fa x.fn x.fc)) := (below_drewN hb1 nq).trans hbX
                    have hok2 : x.ok w2.heap.size ((WA.drewN nq).setCell ⟨PM, 2, none⟩ (.slice x.fa x.fn x.fc)) := Hv.ok.below (w := WA.drewN nq) ⟨hok1.first.drewN nq, hok1.last.drewN nq⟩ hbX
                    have hat2 : At w2.heap.size ((WA.drewN nq).setCell ⟨PM, 2, none⟩ (.slice x.fa x.fn x.fc)) a k x := At.below (w := WA.drewN nq) ⟨hat1.blk, hat1.c0, hat1.c1, hat1.c2, hat1.c3, hat1.c4⟩ hbX
                    clear hMd1 hbX hb1 hok1 hat1 v1 v2 m2 f2 e0 e1 e2 e3 e4
                    generalize ((WA.drewN nq).setCell ⟨PM, 2, none⟩ (.slice x.fa x.fn x.fc)) = WB at *
                    obtain ⟨_, e0, e1, e2, e3, e4⟩ := hat2
                    have m3 : WB.cell? ⟨PM, 3, none⟩ = some (.slice y.la y.ln y.lc) := hMd2.own.cell rfl
                    have f3 := hMd2.own.free 3
                    have v3 := fun q => conv_str (hok2.last.drewN q) x.lc
                    have v4 := fun q => conv_str (n := y.ln) (l := y.hd.last) (hMd2.ok.last.drewN q) y.lc
                    have hlB : x.ok PM WB := hok2.up hPM1
                    rcases (by cases Op.bytesLess x.hd.last y.hd.last <;> cases (x.hd.last == y.hd.last) <;> simp : Op.bytesLess x.hd.last y.hd.last = true ∨ (Op.bytesLess x.hd.last y.hd.last = false ∧ (x.hd.last == y.hd.last) = true) ∨ (Op.bytesLess x.hd.last y.hd.last = false ∧ (x.hd.last == y.hd.last) = false)) with hbl | ⟨hbl, hbe⟩ | ⟨hbl, hbe⟩
                    · go_wp2_with fail
                      go_quiet (fail)
                      go_wp2_with fail
                      go_roundw
                      case rel => exact ⟨k + 1, ({ y with hd := { y.hd with len := y.hd.len + x.hd.len, first := x.hd.first }, fa := x.fa, fn := x.fn, fc := x.fc } : Hv), hlt2, by go_num, Lib.hid (by rw [HN1.out, HS1.out]), hMd2.drewN _, below_drewN hb2 _⟩
                      case measure => simp [intOf]; omega
                    · go_wp2_with fail
                      go_quiet (fail)
                      go_wp2_with fail
                      go_roundw
                      case rel => exact ⟨k + 1, ({ y with hd := { y.hd with len := y.hd.len + x.hd.len, first := x.hd.first }, fa := x.fa, fn := x.fn, fc := x.fc } : Hv), hlt2, by go_num, Lib.hid (by rw [HN1.out, HS1.out]), hMd2.drewN _, below_drewN hb2 _⟩
                      case measure => simp [intOf]; omega
                    · go_wp2_with fail
                      go_quiet (fail)
                      go_wp2_with fail
                      have hMd3 := (hMd2.drewN nq).store (y' := ({ y with hd := { y.hd with len := y.hd.len + x.hd.len, first := x.hd.first, last := x.hd.last }, fa := x.fa, fn := x.fn, fc := x.fc, la := x.la, ln := x.ln, lc := x.lc } : Hv)) (j := 3) (v := .slice x.la x.ln x.lc) rfl ⟨(hMd2.drewN nq).ok.first, hlB.last.drewN nq⟩
                      have hb3 := (below_drewN hb2 nq).setCell (p := ⟨PM, 3, none⟩) hPM1 (.slice x.la x.ln x.lc)
                      go_roundw
                      case rel => exact ⟨k + 1, ({ y with hd := { y.hd with len := y.hd.len + x.hd.len, first := x.hd.first, last := x.hd.last }, fa := x.fa, fn := x.fn, fc := x.fc, la := x.la, ln := x.ln, lc := x.lc } : Hv), hlt2, by go_num, Lib.hid (by rw [HN1.out, HS1.out]), hMd3, hb3⟩
                      case measure => simp [intOf]; omega
                · have hne : hs[k].hd.num ≠ hs[i].hd.num := by
                    intro e
                    have e1 : nm hs k = nm hs i := by unfold nm; rw [getD_lt hs hv0 hl, getD_lt hs hv0 hlt2]; exact e
                    exact hki (HST.out.diff.inj hlt2 hl e1)
                  have hne' : (hs[k].hd.num == hs[i].hd.num) = false := beq_eq_false_iff_ne.2 hne
                  have HY2 : Hid (y.hd.len = sumE (hs.take (if k + 1 ≤ i then i else i + 1))) := Lib.hid (by
                    rw [HYL.out]
                    by_cases h5 : k ≤ i
                    · rw [if_pos h5, if_pos (by omega)]
                    · rw [if_neg h5, if_neg (by omega)])
                  clear hne
                  generalize hs[k].hd.num = nk at *
                  generalize hxi : hs[i] = x at *
                  clear hxi
                  go_wp2_with fail
                  go_quiet (fail)
                  go_wp2_with fail
                  go_roundw
                  case rel => exact ⟨k + 1, y, hlt2, by go_num, HY2, hMd.drewN _, below_drewN hb _⟩
                  case measure => simp [intOf]; omega
              · obtain rfl : k = hs.length := by omega
                rw [if_neg (by omega)] at HYL
                go_wp2_with fail
                go_roundw
                case rel => exact ⟨i + 1, y, hlt, by go_num, HYL.out, hMd, hb⟩
                case measure => simp [intOf]; omega
          · obtain rfl : i = hs.length := by omega
            rw [List.take_length, HST.out.sum] at hyl
            have HYL := Lib.hid hyl
            clear hyl hlt hi
            have m0 : wr.cell? ⟨PM, 0, none⟩ = some (.int .i64 y.hd.num) := hMd.own.cell rfl
            have m1 : wr.cell? ⟨PM, 1, none⟩ = some (.int .i64 y.hd.level) := hMd.own.cell rfl
            have m2 : wr.cell? ⟨PM, 2, none⟩ = some (.slice y.fa y.fn y.fc) := hMd.own.cell rfl
            have m3 : wr.cell? ⟨PM, 3, none⟩ = some (.slice y.la y.ln y.lc) := hMd.own.cell rfl
            have m4 : wr.cell? ⟨PM, 4, none⟩ = some (.int .i64 y.hd.len) := hMd.own.cell rfl
            have hbb : Below w2.heap.size w2 (wr.alloc (boxOf y)) := hb.alloc hb.size _
            have hrow1 : HRow (wr.alloc (boxOf y)).heap.size (wr.alloc (boxOf y)) (some ⟨wr.heap.size, 0, none⟩) 1 [y] := ⟨rfl, by have := (row_boxP wr y).up (B' := (wr.alloc (boxOf y)).heap.size) (by simp); simpa using this⟩
            have hok1 : y.ok wr.heap.size wr := hMd.ok.up (Nat.le_of_lt hMd.lt)
            have hbz : Below wr.heap.size wr (wr.alloc (boxOf y)) := (Below.refl _ _).alloc (Nat.le_refl _) _
            go_wp2_with fail
            refine (after_any hs [y] P ((t : Int) + 1) A1 (some ⟨wr.heap.size, 0, none⟩) A2 hs.length c1 1 1 hs.length c2 (by omega) (by omega) (by omega) _ ((hH2.below hbb).up hbb.size).hrow hrow1 ((hg2.below hbb).up hbb.size)).mono ?_
            rw [hAf.out y]
            rintro e w5 ⟨⟨B, rfl, hB⟩, hb5⟩
            have hz5 := later_ hz (later_ hbb hb5)
            have hok5 : (y.at_ ((t : Int) + 1)).ok w5.heap.size w5 := by
              have h1 := (hok1.below hbz).up hbz.size
              have h2 := (h1.below hb5).up hb5.size
              exact ⟨h2.first, h2.last⟩
            have hH5 : Helds w5.heap.size w5 B [y.at_ ((t : Int) + 1)].length [y.at_ ((t : Int) + 1)] := ⟨rfl, hB.row, fun x hx => by
              obtain rfl := List.mem_singleton.1 hx
              exact hok5⟩
            have hAt5 : Hid (AtLev (t + 1) tot [y.at_ ((t : Int) + 1)]) := Lib.hid (by
              have := atLev_one (y := y) (t := t + 1) (by rw [HYL.out]; exact htot.1)
              rw [HYL.out] at this
              simpa using this)
            clear m0 m1 m2 m3 m4 hMd hb hbb hrow1 hok1 hbz
            go_wp2_with fail
            go_roundw
            case rel => exact ⟨t + 1, [y.at_ ((t : Int) + 1)], B, 1, _, by omega, by go_num, rfl, hAt5, rfl, hH5, hz5⟩
            case measure => simp [intOf]; omega
end Go.Proofs.Ytfbollkafcdfhaa
