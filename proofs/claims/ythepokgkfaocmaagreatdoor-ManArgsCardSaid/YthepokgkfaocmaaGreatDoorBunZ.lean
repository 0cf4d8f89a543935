/- Texts EditK in one. No conditions. -/
import Derived.Test.YthepokgkfaocmaaGreatDoorBunY

/-
  The walk of edit.Put, for any changes.
-/
namespace Go.Proofs.YthepokgkfaocmaaGreatDoor
open Go Go.RowKit

def put2 (f : Int × Int) : List UInt8 := Pn.put f.1.toNat ++ Pn.put f.2.toNat
theorem put2_len (fs : List (Int × Int)) : (fs.flatMap put2).length ≤ fs.length * 20 := flat_len put2 20 fs (fun f _ => by
  have h1 := (Pn.put_len f.1.toNat).2
  have h2 := (Pn.put_len f.2.toNat).2
  simp only [put2, List.length_append]
  omega)
theorem plist_len (ns : List Nat) : (Pn.list ns).length ≤ 10 + ns.length * 10 := by
  have h1 := (Pn.put_len ns.length).2
  have h2 := flat_put_len ns
  simp only [Pn.list, List.length_append]
  omega
theorem may_parts {e : Ed} (h : e.may = true) : e.drop.length ≤ 40 ∧ e.add.length ≤ 40 ∧ 0 ≤ e.log ∧ e.log ≤ 1073741824 ∧ e.floor ≤ 281474976710656 ∧ e.cert ≤ 281474976710656 ∧ e.at_ ≤ 281474976710656 ∧ e.lease ≤ 281474976710656 ∧
    (∀ n ∈ e.drop, 1 ≤ n ∧ n ≤ 1073741824) ∧ (∀ f ∈ e.add, 0 ≤ f.1 ∧ f.1 ≤ 3 ∧ 1 ≤ f.2 ∧ f.2 ≤ 1073741824) := by
  simp only [Ed.may, four4, Bool.and_eq_true, decide_eq_true_eq] at h
  obtain ⟨⟨⟨⟨⟨h1, h2⟩, h3⟩, h4⟩, h5⟩, h6⟩ := h
  refine ⟨h1, h2, h3.1, h3.2, h4.1.1.1, h4.1.1.2, h4.1.2, h4.2, fun n hn => ?_, fun f hf => ?_⟩
  · have := List.all_eq_true.1 h5 n hn
    simpa [isNum] using this
  · have := List.all_eq_true.1 h6 f hf
    simp only [isFile, isNum, Bool.and_eq_true, decide_eq_true_eq] at this
    exact ⟨this.2.1, this.2.2, this.1.1, this.1.2⟩
set_option maxRecDepth 100000 in
set_option maxHeartbeats 1000000 in
theorem eput_bad (A : Option Addr) (N c0 : Nat) (e : Ed) (D : Option Addr) (m d : Nat) (A2 : Option Addr) (n c : Nat) (w : World) (hbad : e.may = false) (hm : m ≤ 1000000) (hn : n ≤ 1000000) (hrd : Row w.heap.size w D m 1 (icells e.drop)) (hra : Row w.heap.size w A2 n 2 (fcells e.add)) :
    Calls Tryz.prog 43 #[.slice A N c0, e.val D m d A2 n c] w fun x w' => x = .returned (.tuple #[.slice none 0 0, .int .i64 1]) ∧ Below w.heap.size w w' := by
  have hmay := fun W (h : Below w.heap.size w W) => may_gen e D m d A2 n c W hm hn ((hrd.below h).up h.size) ((hra.below h).up h.size)
  rw [hbad] at hmay
  unfold Ed.val at *
  have HM := Lib.hid hmay
  clear hmay hrd hra
  go_enter Tryz.func43, Tryz.ntmps43
  have hb0 := (Below.refl w.heap.size w).alloc (Nat.le_refl _) (.cells #[.slice D m d, .slice A2 n c, .int .i64 e.log, .int .u64 (e.floor : Int), .int .u64 (e.cert : Int), .int .u64 (e.at_ : Int), .int .u64 (e.lease : Int)] 39)
  go_wp2_with fail
  refine (HM.out _ hb0).mono ?_
  rintro x w1 ⟨rfl, hb1⟩
  have hbz := later_ hb0 hb1
  clear hb0 hb1
  go_wp2
  exact bodyPost_ret (v := .tuple #[.slice none 0 0, .int .i64 1]) (by simp [results, go_sem]) rfl ⟨rfl, hbz⟩
set_option maxRecDepth 100000 in
set_option maxHeartbeats 4000000 in
theorem eput_gen (A : Option Addr) (N c0 : Nat) (b : List UInt8) (e : Ed) (D : Option Addr) (m d : Nat) (A2 : Option Addr) (n c : Nat) (w : World) (hgood : e.may = true) (hrd : Row w.heap.size w D m 1 (icells e.drop)) (hra : Row w.heap.size w A2 n 2 (fcells e.add))
    (hN : N ≤ 400000000) (hNc : N ≤ c0) (hc : c0 ≤ maxLen) (hr : Row w.heap.size w A N 1 (bts b)) :
    Calls Tryz.prog 43 #[.slice A N c0, e.val D m d A2 n c] w fun x w' => ∃ A' K c', x = .returned (.tuple #[.slice A' K c', .int .i64 0]) ∧
      w'.ownsRow w.heap.size 5 1 (.slice A' K c') K (bts (b ++ e.rec_)) ∧ K ≤ c' ∧ c' ≤ maxLen ∧ Below w.heap.size w w' := by
  have hdl := hrd.ilen
  have hal := hra.flen
  obtain ⟨hp1, hp2, hp3, hp4, hp5, hp6, hp7, hp8, hp9, hp10⟩ := may_parts hgood
  have hbl0 := Ed.bytes_len e hgood
  have hmay := fun W (h : Below w.heap.size w W) => may_gen e D m d A2 n c W (by omega) (by omega) ((hrd.below h).up h.size) ((hra.below h).up h.size)
  rw [hgood] at hmay
  have hrec : e.rec_ = Fr.put 6 e.bytes := rfl
  have hbyt : e.bytes = Pn.list (e.drop.map Int.toNat) ++ Pn.put e.add.length ++ e.add.flatMap put2 ++ [e.log.toNat, e.floor, e.cert, e.at_, e.lease].flatMap Pn.put := by
    simp [Ed.bytes]
    rfl
  rw [hrec]
  generalize e.bytes = EB at *
  obtain ⟨ds, fs, G, F, C, AA, L⟩ := e
  simp only at hdl hal hp1 hp2 hp3 hp4 hp5 hp6 hp7 hp8 hp9 hp10 hbyt hrd hra
  unfold Ed.val at hmay ⊢
  simp only at hmay ⊢
  obtain ⟨g, rfl⟩ : ∃ g : Nat, G = (g : Int) := ⟨G.toNat, by omega⟩
  rw [Int.toNat_natCast, hal] at hbyt
  have HM := Lib.hid hmay
  have HBY := Lib.hid hbyt
  have HBL := Lib.hid hbl0
  have H9 := Lib.hid hp9
  have H10 := Lib.hid hp10
  clear hmay hbyt hbl0 hp9 hp10 hrec hgood
  have hnw : IntKind.u64.wrap (n : Int) = (n : Int) := by rw [IntKind.wrap_u64]; omega
  have hgw : IntKind.u64.wrap (g : Int) = (g : Int) := by rw [IntKind.wrap_u64]; omega
  obtain ⟨j0, hj0, hj1, hj2, hj3⟩ := info_parts (show (Tryz.prog.info? 29).map (fun i => (i.zero, i.size, i.bytes)) = some (some (.int .u64 0), 1, 8) by kernel_rfl)
  go_enter Tryz.func43, Tryz.ntmps43
  have hb0 := (Below.refl w.heap.size w).alloc (Nat.le_refl _) (.cells #[.slice D m d, .slice A2 n c, .int .i64 (g : Int), .int .u64 (F : Int), .int .u64 (C : Int), .int .u64 (AA : Int), .int .u64 (L : Int)] 39)
  have hx0 := BoxO.new w #[.slice D m d, .slice A2 n c, .int .i64 (g : Int), .int .u64 (F : Int), .int .u64 (C : Int), .int .u64 (AA : Int), .int .u64 (L : Int)] 39
  go_wp2_with fail
  refine (HM.out _ hb0).mono ?_
  rintro x w1 ⟨rfl, hb1⟩
  have hx1 := hx0.below hb1
  have hbz := later_ hb0 hb1
  have hsz1 : w.heap.size + 1 ≤ w1.heap.size := by have := hb1.size; simp at this; omega
  clear hb0 hb1 hx0 HM
  have p0 := hx1.cell 0
  simp only [List.getElem?_cons_zero] at p0
  go_wp2_with fail
  go_loopw [6, 20] (fun s x wr => ∃ (k : Nat) (A' : Option Addr) (cc : Nat), k ≤ m ∧ s = .slice A' k cc ∧ x = .int .i64 (k : Int) ∧ wr.ownsRow (w.heap.size + 1) 29 1 (.slice A' k cc) k (u64v ((ds.take k).map Int.toNat)) ∧
    BoxO wr 39 w.heap.size [.slice D m d, .slice A2 n c, .int .i64 (g : Int), .int .u64 (F : Int), .int .u64 (C : Int), .int .u64 (AA : Int), .int .u64 (L : Int)] ∧ Below w.heap.size w wr ∧ w.heap.size + 1 ≤ wr.heap.size) (fun _ x _ => m - (intOf x).toNat)
  case atStart => exact ⟨0, none, 0, Nat.zero_le _, rfl, rfl, World.ownsRow_nil _ _ _ _, hx1, hbz, hsz1⟩
  case round =>
    obtain ⟨k, A', cc, hk, rfl, rfl, hown, hx, hbl, hsz⟩ := hrel
    clear hx1 hbz hsz1 p0
    by_cases hlt : k < m
    · obtain ⟨da, hl, rfl, hdb, hdc⟩ := (hrd.below hbl).int_ hlt
      have hxr := H9.out ds[k] (List.getElem_mem hl)
      have htk : ds.take (k + 1) = ds.take k ++ [ds[k]] := (List.take_append_getElem hl).symm
      generalize ds[k] = x at *
      obtain ⟨q, rfl⟩ : ∃ q : Nat, x = (q : Int) := ⟨x.toNat, by omega⟩
      have HT := Lib.hid htk
      clear htk hl
      have hqw : IntKind.u64.wrap (q : Int) = (q : Int) := by rw [IntKind.wrap_u64]; omega
      have hrow := Row.new (n := 1) (size := 1) wr #[.int .u64 (q : Int)] 29 rfl
      go_wp2_with (at_builtin; refine stop_in ?_)
      refine stop_out (wpList_app rfl (.tmp 24) (.tmp 27) _ rfl (w.heap.size + 1) 29 j0 _ 1 8 Tryz.underlying131 hj0 hj1 hj2 hj3 rfl (by omega) (wr.alloc (.cells #[.int .u64 (q : Int)] 29)) (Below.refl _ _) (by simp; omega) (.slice A' k cc) k (u64v ((ds.take k).map Int.toNat)) rfl (hown.alloc _) (wr.heap.size + 1) _ 1 1 [.int .u64 (q : Int)] rfl hrow (by simp [Value.oneCell']) (k + 1) _ rfl rfl (by unfold maxLen; omega) (by omega) ?_)
      intro A3 c3 w3 ho3 hb3 hg3 hc3 hm3
      have hx3 : BoxO w3 _ _ _ := (hb3.block _ (by omega)).trans (hx.alloc _)
      have hbl3 := (hbl.alloc hbl.size (.cells #[.int .u64 (q : Int)] 29)).trans (hb3.mono (by omega))
      have hsz3 : w.heap.size + 1 ≤ w3.heap.size := by have := hb3.size; simp at this; omega
      clear hown hx hbl hb3 hg3 hrow
      go_wp2_with fail
      go_roundw
      case rel =>
        refine ⟨k + 1, A3, c3, by omega, rfl, by go_num, ?_, hx3, hbl3, hsz3⟩
        rw [HT.out]
        simpa [u64v] using ho3
      case measure => simp [intOf]; omega
    · obtain rfl : m = k := by omega
      have hns : (ds.take m).map Int.toNat = ds.map Int.toNat := by rw [List.take_of_length_le (by omega)]
      rw [hns] at hown
      obtain ⟨ns, hnse⟩ : ∃ ns, ns = ds.map Int.toNat := ⟨_, rfl⟩
      rw [← hnse] at hown
      have hnsl : ns.length = m := by rw [hnse, List.length_map, hdl]
      have hns64 : ∀ x ∈ ns, x < 18446744073709551616 := by
        intro x hx
        rw [hnse] at hx
        obtain ⟨y, hy, rfl⟩ := List.mem_map.1 hx
        have := H9.out y hy
        omega
      have hby := HBY.out
      rw [← hnse] at hby
      have HBY2 := Lib.hid hby
      have hrow := (Row.own hown).drew
      have hll := plist_len ns
      have hpl := (Pn.put_len n).2
      have HR := Lib.hid hrow
      have HN := Lib.hid hns64
      have hxlt := hx.lt
      have hc1 := hx.cell 1
      simp only [List.getElem?_cons_zero, List.getElem?_cons_succ] at hc1
      have hd1 : ∀ w2, Below wr.heap.size wr.drew w2 → w2.cell? ⟨w.heap.size, 1, none⟩ = some (.slice A2 n c) := fun w2 h => (h.cell (p := ⟨w.heap.size, 1, none⟩) hxlt).trans hc1
      have HD1 := Lib.hid hd1
      have HLL := Lib.hid hll
      have HPL := Lib.hid hpl
      have HNL := Lib.hid hnsl
      clear hns hnse hns64 hby HBY hrow hll hpl hnsl hd1 hown
      go_upto_region 9 with (fail)
      go_cut [9] (fun s wx => ∃ A3 M3 c3, s = .slice A3 M3 c3 ∧ wx.ownsRow w.heap.size 5 1 (.slice A3 M3 c3) M3 (bts (Pn.list ns ++ Pn.put n)) ∧ M3 ≤ 500 ∧ M3 ≤ c3 ∧ c3 ≤ maxLen ∧ Below wr.heap.size wr wx)
      case first =>
        go_region_with (first
          | (go_at_call 73; refine (list_any none 0 0 [] A' m cc ns _ (by omega) (by omega) Row.nil_ HR.out HN.out).mono ?_; rintro e w2 ⟨A3, M3, c3, rfl, ho3, hM3, hc3, hb3⟩; have q1 := HD1.out w2 hb3)
          | (go_at_call 69; refine (put_any _ _ _ ([] ++ Pn.list ns) n (by omega) _ (by have h1 := ho3.1; rw [bts_length, List.nil_append] at h1; have := HLL.out; have := HNL.out; omega) (Row.own ho3)).mono ?_; rintro e w3 ⟨A4, c4, rfl, ho4, hc4, hm4, hb4⟩))
        all_goals
          go_wp2_with fail
          go_meet
          refine ⟨_, _, _, rfl, own_base ho4 (Nat.le_trans hbl.size hb3.size : w.heap.size ≤ w2.heap.size), ?_, hc4, hm4, ((Below.refl wr.heap.size wr).drew.trans hb3).trans (hb4.mono hb3.size)⟩
          have h1 := ho4.1
          have h2 := HLL.out
          have h3 := HPL.out
          have h4 := HNL.out
          rw [bts_length, List.nil_append, List.length_append] at h1
          omega
      case rest =>
        obtain ⟨A3, M3, c3, rfl, ho3, hM3, hc3, hm3, hb3⟩ := hcut
        have hx3 := hx.below hb3
        have hbl3 := later_ hbl hb3
        have hsz3 : w.heap.size + 1 ≤ wc.heap.size := by have := hb3.size; omega
        clear hx hbl hb3 HD1 HR hc1 hsz HN
        have p1 := hx3.cell 1
        simp only [List.getElem?_cons_zero, List.getElem?_cons_succ] at p1
        go_wp2_with fail
        go_loopw [9, 40] (fun s x wr => ∃ (k : Nat) (A' : Option Addr) (M cc : Nat), k ≤ n ∧ s = .slice A' M cc ∧ x = .int .i64 (k : Int) ∧ wr.ownsRow w.heap.size 5 1 (.slice A' M cc) M (bts (Pn.list ns ++ Pn.put n ++ (fs.take k).flatMap put2)) ∧ M ≤ 500 + 20 * k ∧ M ≤ cc ∧ cc ≤ maxLen ∧
          BoxO wr 39 w.heap.size [.slice D m d, .slice A2 n c, .int .i64 (g : Int), .int .u64 (F : Int), .int .u64 (C : Int), .int .u64 (AA : Int), .int .u64 (L : Int)] ∧ Below w.heap.size w wr) (fun _ x _ => n - (intOf x).toNat)
        case atStart => exact ⟨0, A3, M3, c3, Nat.zero_le _, rfl, rfl, by simpa using ho3, by omega, hc3, hm3, hx3, hbl3⟩
        case round =>
          obtain ⟨k, A5, M5, c5, hk, rfl, rfl, ho5, hM5, hc5, hm5, hx5, hbl5⟩ := hrel
          clear ho3 hx3 hbl3 hsz3 p1
          by_cases hlt2 : k < n
          · obtain ⟨fa, hl, rfl, hfb, f0, f1⟩ := (hra.below hbl5).file hlt2
            have hxr := H10.out fs[k] (List.getElem_mem hl)
            have htk : fs.take (k + 1) = fs.take k ++ [fs[k]] := (List.take_append_getElem hl).symm
            generalize fs[k] = x at *
            obtain ⟨x0, x1⟩ := x
            simp only at hxr f0 f1
            obtain ⟨lv, rfl⟩ : ∃ q : Nat, x0 = (q : Int) := ⟨x0.toNat, by omega⟩
            obtain ⟨nm, rfl⟩ : ∃ q : Nat, x1 = (q : Int) := ⟨x1.toNat, by omega⟩
            have HT := Lib.hid htk
            have hlw : IntKind.u64.wrap (lv : Int) = (lv : Int) := by rw [IntKind.wrap_u64]; omega
            have hnmw : IntKind.u64.wrap (nm : Int) = (nm : Int) := by rw [IntKind.wrap_u64]; omega
            have hxF := BoxO.new wr #[.int .i64 (lv : Int), .int .i64 (nm : Int)] 114
            have hrW : Row _ _ A5 M5 1 _ := ((Row.own ho5).alloc (Nat.le_refl _) (.cells #[.int .i64 (lv : Int), .int .i64 (nm : Int)] 114)).drew
            have hbA := (Below.refl wr.heap.size wr).alloc (Nat.le_refl _) (.cells #[.int .i64 (lv : Int), .int .i64 (nm : Int)] 114)
            clear htk hl ho5
            go_wp2_with fail
            change Code.wp _ _ _ _ (wr.alloc (.cells #[.int .i64 (lv : Int), .int .i64 (nm : Int)] 114))
            have hx7 := hx5.alloc (.cells #[.int .i64 (lv : Int), .int .i64 (nm : Int)] 114)
            have hbl7 := later_ hbl5 hbA
            generalize wr.alloc (.cells #[.int .i64 (lv : Int), .int .i64 (nm : Int)] 114) = V at *
            have hVlt := hxF.lt
            have v0 := hxF.cell 0
            have v1 := hxF.cell 1
            simp only [List.getElem?_cons_zero, List.getElem?_cons_succ] at v0 v1
            have hd : ∀ w2, Below V.heap.size V.drew w2 → w2.cell? ⟨wr.heap.size, 0, none⟩ = some (.int .i64 (lv : Int)) ∧ w2.cell? ⟨wr.heap.size, 1, none⟩ = some (.int .i64 (nm : Int)) := fun w2 h => ⟨(h.cell (p := ⟨wr.heap.size, 0, none⟩) hVlt).trans v0, (h.cell (p := ⟨wr.heap.size, 1, none⟩) hVlt).trans v1⟩
            have HD := Lib.hid hd
            have HR5 := Lib.hid (hrW.up (B' := V.drew.heap.size) (Nat.le_of_lt hVlt))
            have hl1 := (Pn.put_len lv).2
            have hl2 := (Pn.put_len nm).2
            have HL1 := Lib.hid hl1
            have HL2 := Lib.hid hl2
            clear hd hrW hbA hx5 hbl5 hl1 hl2 f0 f1
            go_region_with (first
              | (go_at_call 69; (with_reducible refine (put_any A5 M5 c5 (Pn.list ns ++ Pn.put n ++ (fs.take k).flatMap put2) lv (by omega) _ (by omega) HR5.out).mono ?_); rintro e w2 ⟨A6, c6, rfl, ho6, hc6, hm6, hb6⟩; obtain ⟨q0, q1⟩ := HD.out w2 hb6)
              | (go_at_call 69; (with_reducible refine (put_any A6 _ c6 (Pn.list ns ++ Pn.put n ++ (fs.take k).flatMap put2 ++ Pn.put lv) nm (by omega) _ (by have := HL1.out; omega) (Row.own ho6)).mono ?_); rintro e w3 ⟨A7, c7, rfl, ho7, hc7, hm7, hb7⟩))
            all_goals
              have hbe := ((Below.refl V.heap.size V).drew.trans hb6).trans (hb7.mono hb6.size)
              have hx8 := hx7.below hbe
              have hbl8 := later_ hbl7 hbe
              have ho8 := own_base (base' := w.heap.size) ho7 (Nat.le_trans hbl7.size hb6.size)
              clear hb6 hb7 hbe hx7 hbl7 ho6 ho7 hxF HR5 HD v0 v1
              go_wp2_with fail
              go_roundw
              case rel =>
                refine ⟨k + 1, A7, _, c7, by omega, rfl, by go_num, ?_, by have h1 := HL1.out; have h2 := HL2.out; omega, hc7, hm7, hx8, hbl8⟩
                rw [HT.out]
                simpa [put2, List.append_assoc] using ho8
              case measure => simp [intOf]; omega
          · obtain rfl : n = k := by omega
            have hfs : fs.take n = fs := List.take_of_length_le (by omega)
            rw [hfs] at ho5
            have p2 := hx5.cell 2
            have p3 := hx5.cell 3
            have p4 := hx5.cell 4
            have p5 := hx5.cell 5
            have p6 := hx5.cell 6
            simp only [List.getElem?_cons_zero, List.getElem?_cons_succ] at p2 p3 p4 p5 p6
            have hM6 : M5 ≤ 1300 := by omega
            clear hfs hx5 hlt2 hM5
            go_wp2_with fail
            have hb5 := hbl5.alloc hbl5.size (.cells #[.int .u64 (g : Int), .int .u64 (F : Int), .int .u64 (C : Int), .int .u64 (AA : Int), .int .u64 (L : Int)] 29)
            have hrow := u64_row wr 29 #[.int .u64 (g : Int), .int .u64 (F : Int), .int .u64 (C : Int), .int .u64 (AA : Int), .int .u64 (L : Int)] [g, F, C, AA, L] 5 rfl rfl
            have ho6 := ho5.alloc (.cells #[.int .u64 (g : Int), .int .u64 (F : Int), .int .u64 (C : Int), .int .u64 (AA : Int), .int .u64 (L : Int)] 29)
            clear p2 p3 p4 p5 p6 ho5 hbl5
            change Code.wp _ _ _ _ (wr.alloc (.cells #[.int .u64 (g : Int), .int .u64 (F : Int), .int .u64 (C : Int), .int .u64 (AA : Int), .int .u64 (L : Int)] 29))
            generalize wr.alloc (.cells #[.int .u64 (g : Int), .int .u64 (F : Int), .int .u64 (C : Int), .int .u64 (AA : Int), .int .u64 (L : Int)] 29) = V at *
            generalize wr.heap.size = hp at *
            have hns : ∀ n ∈ [g, F, C, AA, L], n < 18446744073709551616 := by
              intro n hn
              simp at hn
              omega
            have hby := HBY2.out
            have hnl : [g, F, C, AA, L].length = 5 := rfl
            have HN := Lib.hid hns
            have HNL := Lib.hid hnl
            generalize hnsd : [g, F, C, AA, L] = vs at *
            have HBY3 := Lib.hid hby
            have HD := Lib.hid hnsd
            clear hns hby HBY2 hnl hnsd hgw hnw
            obtain ⟨LL, hLL⟩ : ∃ LL, LL = Pn.list ns ++ Pn.put n ++ fs.flatMap put2 := ⟨_, rfl⟩
            rw [← hLL] at ho6
            have hby4 := HBY3.out
            rw [← hLL] at hby4
            have HBY4 := Lib.hid hby4
            clear hLL hby4 HBY3
            go_loopw [9, 67] (fun s x wr3 => ∃ (k : Nat) (A' : Option Addr) (M c' : Nat), k ≤ 5 ∧ s = .slice A' M c' ∧ x = .int .i64 (k : Int) ∧ M ≤ 1300 + 10 * k ∧ wr3.ownsRow w.heap.size 5 1 (.slice A' M c') M (bts (LL ++ (vs.take k).flatMap Pn.put)) ∧ M ≤ c' ∧ c' ≤ maxLen ∧ Below V.heap.size V wr3) (fun _ x _ => 5 - (intOf x).toNat)
            case atStart => exact ⟨0, A5, M5, c5, by omega, rfl, rfl, by omega, by simpa using ho6, hc5, hm5, Below.refl _ _⟩
            case round =>
              obtain ⟨k, A', M, c', hk, rfl, rfl, hM, hown, hMc, hcm, hbV⟩ := hrel
              by_cases hlt2 : k < 5
              · obtain ⟨aa, hl, he, hab, hc⟩ := (hrow.below hbV).un hlt2
                injection he with he
                subst he
                have hxl := HN.out vs[k] (List.getElem_mem hl)
                have htk : vs.take (k + 1) = vs.take k ++ [vs[k]] := (List.take_append_getElem hl).symm
                generalize vs[k] = x at *
                have HT := Lib.hid htk
                clear htk
                rw [base_add] at hc
                go_wp2_with fail
                refine (put_any A' M c' _ x hxl wr (by omega) (Row.own hown)).mono ?_
                rintro e w2 ⟨A3, c3, rfl, ho3, hc3, hm3, hb3⟩
                have hpl := (Pn.put_len x).2
                have ho3' := own_base ho3 (Nat.le_trans hb5.size hbV.size)
                have HPL := Lib.hid hpl
                clear hpl ho3
                go_wp2_with fail
                go_roundw
                case rel =>
                  refine ⟨k + 1, A3, M + (Pn.put x).length, c3, by omega, rfl, by go_num, by have h := HPL.out; omega, ?_, hc3, hm3, later_ hbV hb3⟩
                  rw [HT.out]
                  simpa [List.append_assoc] using ho3'
                case measure => simp [intOf]; omega
              · obtain rfl : k = 5 := by omega
                have hfin : LL ++ (vs.take 5).flatMap Pn.put = EB := by
                  rw [List.take_of_length_le (by have := HNL.out; omega)]
                  exact HBY4.out.symm
                rw [hfin] at hown
                have hbw := hb5.trans (hbV.mono hb5.size)
                have hEB := HBL.out
                clear hfin hrow ho6 hbV hb5
                have hq := Row.own hown
                clear hown
                go_wp2_with fail
                refine (fput_any A N c0 b 6 A' M c' _ wr (by omega) hNc hc ((hr.below hbw).up hbw.size) (by decide) (by decide) (by omega) hMc hcm hq).mono ?_
                rintro e w2 ⟨A3, K, c3, rfl, ho3, hc3, hm3, hb3⟩
                have ho3' := own_base ho3 hbw.size
                have hbz := later_ hbw hb3
                clear ho3 hb3
                go_wp2
                exact bodyPost_ret (v := .tuple #[.slice A3 K c3, .int .i64 0]) (by simp [results, go_sem]) rfl ⟨A3, K, c3, rfl, ho3', hc3, hm3, hbz⟩
end Go.Proofs.YthepokgkfaocmaaGreatDoor
