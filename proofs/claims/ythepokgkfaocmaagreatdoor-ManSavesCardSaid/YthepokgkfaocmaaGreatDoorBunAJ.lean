/- Texts EditH, PlainManG, EditI, Del in one. No conditions. -/
import Derived.Test.YthepokgkfaocmaaGreatDoorBunAI
import Derived.Test.YthepokgkfaocmaaGreatDoorBunAC
import Derived.Test.YthepokgkfaocmaaGreatDoorBunAD
import Derived.Deep.RegionLaw

/-
  The walks of edit.Ok and edit.may, for any Views and changes.
-/
namespace Go.Proofs.YthepokgkfaocmaaGreatDoor
open Go Go.RowKit

set_option maxRecDepth 100000 in
theorem fhas_cap (K : Nat) (hF : ∀ args w, (callFunc K args).run Tryz.prog w = .ok (.enter K args) w) (p : Addr) (P : Int × Int → Bool) (A : Option Addr) (n c : Nat) (fs : List (Int × Int)) (w : World) (hn : n ≤ 1000000) (hr : Row w.heap.size w A n 2 (fcells fs))
    (hK : ∀ f w1, Below w.heap.size w w1 → Calls Tryz.prog K #[.agg #[.int .i64 f.1, .int .i64 f.2], .pointer (some p)] w1 fun e w' => e = .returned (.bool (P f)) ∧ Below w1.heap.size w1 w') :
    Calls Tryz.prog 64 #[.slice A n c, .func (.func K) #[] #[.pointer (some p)]] w fun e w' => e = .returned (.bool (fs.any P)) ∧ Below w.heap.size w w' := by
  have hge := fidx_ge P fs
  have hq := fidx_cap K hF p P A n c fs w hn hr hK
  clear hK
  generalize fidx P fs = i at *
  have HGE := Lib.hid hge
  clear hge
  go_enter Tryz.func64, Tryz.ntmps64
  go_wp2_with fail
  refine hq.mono ?_
  rintro e w1 ⟨rfl, hb⟩
  clear hq
  go_wp2
  go_ret
  exact ⟨ret_b HGE.out, hb⟩
set_option maxRecDepth 100000 in
theorem fhas_may (A : Option Addr) (n c : Nat) (fs : List (Int × Int)) (w : World) (hn : n ≤ 1000000) (hr : Row w.heap.size w A n 2 (fcells fs)) :
    Calls Tryz.prog 64 #[.slice A n c, .func (.func 101) #[] #[]] w fun e w' => e = .returned (.bool (fs.any fun f => !isFile f)) ∧ Below w.heap.size w w' := by
  have hidx : Calls Tryz.prog 74 #[.slice A n c, .func (.func 101) #[] #[]] w fun e w' => e = .returned (.int .i64 (fidx (fun f => !isFile f) fs)) ∧ Below w.heap.size w w' := by
    obtain ⟨P, hP⟩ : ∃ P : Int × Int → Bool, P = fun f => !isFile f := ⟨_, rfl⟩
    have hK : ∀ f w1, Calls Tryz.prog 101 #[.agg #[.int .i64 f.1, .int .i64 f.2]] w1 fun e w' => e = .returned (.bool (P f)) ∧ Below w1.heap.size w1 w' := fun f w1 => by rw [hP]; exact may2_any f w1
    rw [← hP]
    have hnn := hr.flen
    have HK := Lib.hid hK
    clear hK hP
    go_enter Tryz.func74, Tryz.ntmps74
    go_wp2
    go_loopw [8] (fun i wr => ∃ k : Nat, k ≤ n ∧ i = .int .i64 (k : Int) ∧ Hid ((fs.take k).any P = false) ∧ Below w.heap.size w wr) (fun i _ => n - (intOf i).toNat)
    case atStart => exact ⟨0, Nat.zero_le _, rfl, Lib.hid rfl, Below.refl _ _⟩
    case round =>
      obtain ⟨k, hk, rfl, hb, hbl⟩ := hrel
      by_cases hlt : k < n
      · obtain ⟨a, hl, rfl, hbk, c0, c1⟩ := (hr.below hbl).file hlt
        have ht := any_take (P := P) hl
        have hs := fun h1 => fidx_some (P := P) hl hb.out h1
        generalize fs[k] = f at *
        have HT := Lib.hid ht
        have HS := Lib.hid hs
        clear ht hs hl
        have hc := HK.out f wr
        cases hp : P f with
        | true =>
          rw [hp] at hc
          have HP := Lib.hid hp
          clear hp
          go_wp2_with fail
          refine hc.mono ?_
          rintro e w1 ⟨rfl, hb1⟩
          go_wp2
          go_ret
          exact ⟨ret_i (HS.out HP.out).symm, later_ hbl hb1⟩
        | false =>
          rw [hp] at hc
          have HP := Lib.hid hp
          clear hp
          go_wp2_with fail
          refine hc.mono ?_
          rintro e w1 ⟨rfl, hb1⟩
          go_wp2
          go_roundw
          case rel => exact ⟨k + 1, by omega, by go_num, Lib.hid (by rw [HT.out, hb.out, HP.out]; rfl), later_ hbl hb1⟩
          case measure => simp [intOf]; omega
      · have hall : fidx P fs = -1 := fidx_none (by
          have hb' := hb.out
          rwa [List.take_of_length_le (by omega)] at hb')
        have HA := Lib.hid hall
        clear hall
        go_wp2
        go_ret
        exact ⟨ret_i HA.out.symm, hbl⟩
  have hge := fidx_ge (fun f => !isFile f) fs
  generalize fidx (fun f => !isFile f) fs = i at *
  have HGE := Lib.hid hge
  clear hge
  go_enter Tryz.func64, Tryz.ntmps64
  go_wp2_with fail
  refine hidx.mono ?_
  rintro e w1 ⟨rfl, hb⟩
  clear hidx
  go_wp2
  go_ret
  exact ⟨ret_b HGE.out, hb⟩
set_option maxRecDepth 100000 in
theorem ihas_may (A : Option Addr) (n c : Nat) (ns : List Int) (w : World) (hn : n ≤ 1000000) (hr : Row w.heap.size w A n 1 (icells ns)) :
    Calls Tryz.prog 99 #[.slice A n c, .func (.func 100) #[] #[]] w fun e w' => e = .returned (.bool (ns.any fun f => !isNum f)) ∧ w = w' := by
  have hidx : Calls Tryz.prog 122 #[.slice A n c, .func (.func 100) #[] #[]] w fun e w' => e = .returned (.int .i64 (fidx (fun f => !isNum f) ns)) ∧ w = w' := by
    obtain ⟨P, hP⟩ : ∃ P : Int → Bool, P = fun f => !isNum f := ⟨_, rfl⟩
    have hK : ∀ f w1, Calls Tryz.prog 100 #[.int .i64 f] w1 fun e w' => e = .returned (.bool (P f)) ∧ w1 = w' := fun f w1 => by rw [hP]; exact may1_any f w1
    rw [← hP]
    have hnn := hr.ilen
    have HK := Lib.hid hK
    clear hK hP
    go_enter Tryz.func122, Tryz.ntmps122
    go_wp2
    go_loop [8] (fun i => ∃ k : Nat, k ≤ n ∧ i = .int .i64 (k : Int) ∧ Hid ((ns.take k).any P = false)) (fun i => n - (intOf i).toNat)
    case atStart => exact ⟨0, Nat.zero_le _, rfl, Lib.hid rfl⟩
    case round =>
      obtain ⟨k, hk, rfl, hb⟩ := hrel
      by_cases hlt : k < n
      · obtain ⟨a, hl, rfl, hbk, c0⟩ := hr.int_ hlt
        have ht := any_take (P := P) hl
        have hs := fun h1 => fidx_some (P := P) hl hb.out h1
        generalize ns[k] = f at *
        have HT := Lib.hid ht
        have HS := Lib.hid hs
        clear ht hs hl
        have hc := HK.out f w
        cases hp : P f with
        | true =>
          rw [hp] at hc
          have HP := Lib.hid hp
          clear hp
          go_wp2_with fail
          refine hc.mono ?_
          rintro e w1 ⟨rfl, rfl⟩
          go_wp2
          go_ret
          exact ⟨ret_i (HS.out HP.out).symm, rfl⟩
        | false =>
          rw [hp] at hc
          have HP := Lib.hid hp
          clear hp
          go_wp2_with fail
          refine hc.mono ?_
          rintro e w1 ⟨rfl, rfl⟩
          go_wp2
          go_round
          case rel => exact ⟨k + 1, by omega, by go_num, Lib.hid (by rw [HT.out, hb.out, HP.out]; rfl)⟩
          case measure => simp [intOf]; omega
      · have hall : fidx P ns = -1 := fidx_none (by
          have hb' := hb.out
          rwa [List.take_of_length_le (by omega)] at hb')
        have HA := Lib.hid hall
        clear hall
        go_wp2
        go_ret
        exact ⟨ret_i HA.out.symm, rfl⟩
  have hge := fidx_ge (fun f => !isNum f) ns
  generalize fidx (fun f => !isNum f) ns = i at *
  have HGE := Lib.hid hge
  clear hge
  go_enter Tryz.func99, Tryz.ntmps99
  go_wp2_with fail
  refine hidx.mono ?_
  rintro e w1 ⟨rfl, rfl⟩
  clear hidx
  go_wp2
  go_ret
  exact ⟨ret_b HGE.out, rfl⟩

theorem four_bigs (a b c d : Nat) : four4 a b c d = !bigs [a, b, c, d] := by
  rw [Bool.eq_iff_iff]
  simp [four4, bigs]
  omega
theorem apart_pairs : ∀ fs : List (Int × Int), apart fs = true ↔ fs.Pairwise fun f g => g.2 ≠ f.2
  | [] => by simp [apart]
  | f :: r => by
    rw [apart, List.pairwise_cons, Bool.and_eq_true, apart_pairs r]
    simp
/-- A row of files that may be, file by file. -/
theorem files_good (fs : List (Int × Int)) : (fs.all isFile && apart fs) = true ↔ ∀ k (h : k < fs.length), isFile fs[k] = true ∧ (fs.take k).any (fun g => g.2 == (fs[k]).2) = false := by
  rw [Bool.and_eq_true, apart_pairs, List.all_eq_true, List.pairwise_iff_getElem]
  constructor
  · rintro ⟨h1, h2⟩ k hk
    refine ⟨h1 _ (List.getElem_mem hk), ?_⟩
    rw [List.any_eq_false]
    intro g hg
    obtain ⟨i, hi, rfl⟩ := List.mem_take_iff_getElem.1 hg
    have := h2 i k (by omega) hk (by omega)
    simp only [beq_iff_eq]
    exact fun e => this e.symm
  · intro h
    refine ⟨fun f hf => ?_, fun i j hi hj hij => ?_⟩
    · obtain ⟨k, hk, rfl⟩ := List.getElem_of_mem hf
      exact (h k hk).1
    · have := List.any_eq_false.1 (h j hj).2 fs[i] (List.mem_take_iff_getElem.2 ⟨i, by omega, rfl⟩)
      simp only [beq_iff_eq] at this
      exact fun e => this e.symm
/-- A View as a value: its row of files lies at A. -/
def Vw.val (v : Vw) (A : Option Addr) (n c : Nat) : Value := .agg #[.int .i64 v.log, .slice A n c, .int .u64 (v.floor : Int), .int .u64 (v.cert : Int), .int .u64 (v.at_ : Int), .int .u64 (v.lease : Int)]
def Vw.cells (v : Vw) (A : Option Addr) (n c : Nat) : List Value := [.int .i64 v.log, .slice A n c, .int .u64 (v.floor : Int), .int .u64 (v.cert : Int), .int .u64 (v.at_ : Int), .int .u64 (v.lease : Int)]
/-- A change as a value. -/
def Ed.val (e : Ed) (D : Option Addr) (m d : Nat) (A : Option Addr) (n c : Nat) : Value := .agg #[.slice D m d, .slice A n c, .int .i64 e.log, .int .u64 (e.floor : Int), .int .u64 (e.cert : Int), .int .u64 (e.at_ : Int), .int .u64 (e.lease : Int)]
def Ed.cells (e : Ed) (D : Option Addr) (m d : Nat) (A : Option Addr) (n c : Nat) : List Value := [.slice D m d, .slice A n c, .int .i64 e.log, .int .u64 (e.floor : Int), .int .u64 (e.cert : Int), .int .u64 (e.at_ : Int), .int .u64 (e.lease : Int)]
set_option maxRecDepth 100000 in
set_option maxHeartbeats 2000000 in
theorem ok_gen (v : Vw) (A : Option Addr) (n c : Nat) (w : World) (hn : n ≤ 1000000) (hnc : n ≤ c) (_hcm : c ≤ maxLen) (hr : Row w.heap.size w A n 2 (fcells v.files)) :
    Calls Tryz.prog 38 #[v.val A n c] w fun e w' => e = .returned (.bool v.ok) ∧ Below w.heap.size w w' := by
  obtain ⟨g, fs, f, ce, a, l⟩ := v
  obtain ⟨b, hb⟩ : ∃ b, b = Vw.ok ⟨g, fs, f, ce, a, l⟩ := ⟨_, rfl⟩
  have hfl := hr.flen
  rw [← hb]
  unfold Vw.ok at hb
  simp only at hb hr hfl
  rw [four_bigs, hfl, Bool.and_assoc _ _ (apart fs)] at hb
  unfold Vw.val
  simp only
  have hisn := isnum_gen g
  cases h1 : isNum g with
  | false =>
    rw [h1] at hb hisn
    have HB := Lib.hid hb
    clear hb h1
    go_enter Tryz.func38, Tryz.ntmps38
    go_wp2_with fail
    refine (hisn _).mono ?_
    rintro e w1 ⟨rfl, rfl⟩
    go_wp2
    go_ret
    exact ⟨ret_b HB.out.symm, (Below.refl _ _).alloc (Nat.le_refl _) _⟩
  | true =>
    rw [h1] at hb hisn
    by_cases h2 : n ≤ 40
    · cases h3 : bigs [f, ce, a, l] with
      | true =>
        rw [h3] at hb
        have HB := Lib.hid hb
        clear hb h1
        have HX := Lib.hid h3
        clear h3
        go_enter Tryz.func38, Tryz.ntmps38
        go_wp2_with fail
        refine (hisn _).mono ?_
        rintro e w1 ⟨rfl, rfl⟩
        clear hisn
        have hrow := u64_row (w.alloc (.cells #[.int .i64 g, .slice A n c, .int .u64 (f : Int), .int .u64 (ce : Int), .int .u64 (a : Int), .int .u64 (l : Int)] 31)) 29 #[.int .u64 (f : Int), .int .u64 (ce : Int), .int .u64 (a : Int), .int .u64 (l : Int)] [f, ce, a, l] 4 rfl rfl
        have hmeta := meta_any _ 4 4 [f, ce, a, l] _ (by omega) hrow
        rw [HX.out] at hmeta
        simp only [World.size_alloc, Bool.not_true] at hmeta
        clear hrow
        go_wp2_with fail
        refine hmeta.mono ?_
        rintro e w1 ⟨rfl, rfl⟩
        clear hmeta
        go_wp2
        go_ret
        exact ⟨ret_b (HB.out.trans (by simp)).symm, ((Below.refl _ _).alloc (Nat.le_refl _) _).alloc (by simp) _⟩
      | false =>
        rw [h3] at hb
        have hgd := files_good fs
        have hbb : b = (fs.all isFile && apart fs) := by rw [hb]; simp [h2]
        rw [← hbb] at hgd
        have HG := Lib.hid hgd
        clear hb h1 hgd hbb
        have HX := Lib.hid h3
        clear h3
        go_enter Tryz.func38, Tryz.ntmps38
        go_wp2_with fail
        refine (hisn _).mono ?_
        rintro e w1 ⟨rfl, rfl⟩
        clear hisn
        have hrow := u64_row (w.alloc (.cells #[.int .i64 g, .slice A n c, .int .u64 (f : Int), .int .u64 (ce : Int), .int .u64 (a : Int), .int .u64 (l : Int)] 31)) 29 #[.int .u64 (f : Int), .int .u64 (ce : Int), .int .u64 (a : Int), .int .u64 (l : Int)] [f, ce, a, l] 4 rfl rfl
        have hmeta := meta_any _ 4 4 [f, ce, a, l] _ (by omega) hrow
        rw [HX.out] at hmeta
        simp only [World.size_alloc, Bool.not_false] at hmeta
        clear hrow
        go_wp2_with fail
        refine hmeta.mono ?_
        rintro e w1 ⟨rfl, rfl⟩
        clear hmeta
        have hbx0 := (BoxO.new w #[.int .i64 g, .slice A n c, .int .u64 (f : Int), .int .u64 (ce : Int), .int .u64 (a : Int), .int .u64 (l : Int)] 31).alloc (.cells #[.int .u64 (f : Int), .int .u64 (ce : Int), .int .u64 (a : Int), .int .u64 (l : Int)] 29)
        have hbl0 := ((Below.refl w.heap.size w).alloc (Nat.le_refl _) (.cells #[.int .i64 g, .slice A n c, .int .u64 (f : Int), .int .u64 (ce : Int), .int .u64 (a : Int), .int .u64 (l : Int)] 31)).alloc (by simp) (.cells #[.int .u64 (f : Int), .int .u64 (ce : Int), .int .u64 (a : Int), .int .u64 (l : Int)] 29)
        go_wp2
        go_loopw [31] (fun i wr => ∃ k : Nat, k ≤ n ∧ i = .int .i64 (k : Int) ∧ Hid (∀ j (h : j < fs.length), j < k → isFile fs[j] = true ∧ (fs.take j).any (fun g => g.2 == (fs[j]).2) = false) ∧
          BoxO wr 31 w.heap.size [.int .i64 g, .slice A n c, .int .u64 (f : Int), .int .u64 (ce : Int), .int .u64 (a : Int), .int .u64 (l : Int)] ∧ Below w.heap.size w wr) (fun i _ => n - (intOf i).toNat)
        case atStart => exact ⟨0, Nat.zero_le _, rfl, Lib.hid (fun j h hj => by omega), hbx0, hbl0⟩
        case round =>
          obtain ⟨k, hk, rfl, hgd, hBx, hbl⟩ := hrel
          clear hbx0 hbl0
          by_cases hlt : k < n
          · have hrk := (hr.pre (m := k) hk).below hbl
            rw [← fcells_take] at hrk
            obtain ⟨ad, hl, rfl, hbk, c0, c1⟩ := (hr.below hbl).file hlt
            have hbad1 : isFile fs[k] = false → b = false := fun h => by
              cases b with
              | false => rfl
              | true => have := (HG.out.1 rfl k hl).1; rw [h] at this; cases this
            have hbad2 : (fs.take k).any (fun g => g.2 == (fs[k]).2) = true → b = false := fun h => by
              cases b with
              | false => rfl
              | true => have := (HG.out.1 rfl k hl).2; rw [h] at this; cases this
            have hnext : isFile fs[k] = true → (fs.take k).any (fun g => g.2 == (fs[k]).2) = false → ∀ j (h : j < fs.length), j < k + 1 → isFile fs[j] = true ∧ (fs.take j).any (fun g => g.2 == (fs[j]).2) = false := fun e1 e2 j hj hjk => by
              rcases Nat.lt_or_ge j k with h | h
              · exact hgd.out j hj h
              · obtain rfl : j = k := by omega
                exact ⟨e1, e2⟩
            generalize fs[k] = x at *
            obtain ⟨ps, hps⟩ : ∃ ps, ps = fs.take k := ⟨_, rfl⟩
            rw [← hps] at hbad2 hnext hrk
            have H1 := Lib.hid hbad1
            have H2 := Lib.hid hbad2
            have H3 := Lib.hid hnext
            clear hbad1 hbad2 hnext hgd hps HG HX hl
            have q1 := hBx.cell 1
            simp only [List.getElem?_cons_zero, List.getElem?_cons_succ] at q1
            have hisf := isfile_gen x
            cases hx : isFile x with
            | false =>
              rw [hx] at hisf
              have HF := Lib.hid hx
              clear hx
              go_wp2_with fail
              refine (hisf _).mono ?_
              rintro e w1 ⟨rfl, hb1⟩
              have hbw := later_ (hbl.alloc hbl.size (.cells #[.int .i64 x.1, .int .i64 x.2] 114)) hb1
              clear hisf
              go_wp2
              go_ret
              exact ⟨ret_b (H1.out HF.out).symm, hbw⟩
            | true =>
              rw [hx] at hisf
              have HF := Lib.hid hx
              clear hx
              go_wp2_with fail
              refine (hisf _).mono ?_
              rintro e w1 ⟨rfl, hb1⟩
              have hbA := Below.alloc (Below.refl wr.heap.size wr) (Nat.le_refl _) (.cells #[.int .i64 x.1, .int .i64 x.2] 114)
              have hbw := later_ hbA hb1
              have hB1 := hBx.below hbw
              have hXc : w1.cell? ⟨wr.heap.size, 1, none⟩ = some (.int .i64 x.2) := by
                rw [hb1.cell (p := ⟨wr.heap.size, 1, none⟩) (by simp)]
                exact (BoxO.new wr #[.int .i64 x.1, .int .i64 x.2] 114).cell 1
              have hbz := later_ hbl hbw
              have hrk1 := (hrk.below (hbw.mono hbl.size)).up hbz.size
              have hXlt := World.block_lt_of_cell? w1 _ hXc
              clear hisf hb1 hbA hbw hBx q1 c0 c1
              have q1 := hB1.cell 1
              simp only [List.getElem?_cons_zero, List.getElem?_cons_succ] at q1
              have hfh := fhas_cap 65 (fun _ _ => rfl) ⟨wr.heap.size, 0, none⟩ (fun f => f.2 == x.2) (some ad) k c ps w1 (by omega) hrk1 (fun f w2 hb2 => okc_any f wr.heap.size x.2 w2 ((hb2.cell (p := ⟨wr.heap.size, 1, none⟩) hXlt).trans hXc))
              cases hany : ps.any (fun f => f.2 == x.2) with
              | true =>
                rw [hany] at hfh
                have HY := Lib.hid hany
                clear hany
                go_wp2_with fail
                refine hfh.mono ?_
                rintro e w2 ⟨rfl, hb2⟩
                have hbq := later_ hbz hb2
                clear hfh
                go_wp2
                go_ret
                exact ⟨ret_b (H2.out HY.out).symm, hbq⟩
              | false =>
                rw [hany] at hfh
                have HY := Lib.hid hany
                clear hany
                go_wp2_with fail
                refine hfh.mono ?_
                rintro e w2 ⟨rfl, hb2⟩
                have hbq := later_ hbz hb2
                have hB2 := hB1.below hb2
                clear hfh
                go_wp2
                go_roundw
                case rel => exact ⟨k + 1, by omega, by go_num, Lib.hid (H3.out HF.out HY.out), hB2, hbq⟩
                case measure => simp [intOf]; omega
          · have hfin : b = true := HG.out.2 (fun j hj => hgd.out j hj (by omega))
            have HF := Lib.hid hfin
            clear hfin hgd HG HX
            go_wp2
            go_ret
            exact ⟨ret_b HF.out.symm, hbl⟩
    · have hbf : b = false := by rw [hb]; simp [h2]
      have HB := Lib.hid hbf
      clear hb h1 hbf
      go_enter Tryz.func38, Tryz.ntmps38
      go_wp2_with fail
      refine (hisn _).mono ?_
      rintro e w1 ⟨rfl, rfl⟩
      go_wp2
      go_ret
      exact ⟨ret_b HB.out.symm, (Below.refl _ _).alloc (Nat.le_refl _) _⟩
end Go.Proofs.YthepokgkfaocmaaGreatDoor

/-
  A manifest of any View over a disk, as plain data: rewrite, Save.
-/
namespace Go.Proofs.YthepokgkfaocmaaGreatDoor
open Go

/-- A manifest. -/
structure Gs where
  name : List UInt8
  v : Vw
  count : Nat
  broken : Bool
namespace Gw
open Mn
open Mw (kCur kTemp headB sweep)
def fin (d : Sd) (M : Gs) (nm : List UInt8) : Sd × Gs × Nat :=
  if (d.syncDir).2 ≠ 0 then ((d.syncDir).1, { M with name := nm, count := 1, broken := true }, (d.syncDir).2)
  else (sweep nm (d.syncDir).1.list (d.syncDir).1, { M with name := nm, count := 1 }, 0)
def ren (d : Sd) (M : Gs) (nm : List UInt8) : Sd × Gs × Nat :=
  if (d.rename kTemp kCur).2 ≠ 0 then ((d.rename kTemp kCur).1, M, (d.rename kTemp kCur).2) else fin (d.rename kTemp kCur).1 M nm
def sd1 (d : Sd) (M : Gs) (nm : List UInt8) : Sd × Gs × Nat :=
  if (d.syncDir).2 ≠ 0 then ((d.syncDir).1, M, (d.syncDir).2) else ren (d.syncDir).1 M nm
def hd (d : Sd) (M : Gs) (nm : List UInt8) : Sd × Gs × Nat :=
  if (d.write kTemp (headB ((number nm kMan).getD 0))).2 ≠ 0 then ((d.write kTemp (headB ((number nm kMan).getD 0))).1, M, (d.write kTemp (headB ((number nm kMan).getD 0))).2)
  else sd1 (d.write kTemp (headB ((number nm kMan).getD 0))).1 M nm
def tmp (d : Sd) (M : Gs) (nm : List UInt8) : Sd × Gs × Nat :=
  if (d.read kTemp).2 = 0 then
    if (d.remove kTemp).2 ≠ 0 then ((d.remove kTemp).1, M, (d.remove kTemp).2) else hd (d.remove kTemp).1 M nm
  else hd d M nm
/-- The View is written into a file, and current leads to it. -/
def rewrite (d : Sd) (M : Gs) (nm : List UInt8) : Sd × Gs × Nat :=
  if (d.write nm M.v.whole.rec_).2 ≠ 0 then ((d.write nm M.v.whole.rec_).1, M, (d.write nm M.v.whole.rec_).2)
  else tmp (d.write nm M.v.whole.rec_).1 M nm
/-- A change that may be is saved; v is the View with it. -/
def put (d : Sd) (M : Gs) (e : Ed) (v : Vw) : Sd × Gs × Nat :=
  if (d.append M.name e.rec_).2 ≠ 0 then ((d.append M.name e.rec_).1, M, (d.append M.name e.rec_).2)
  else if ((d.append M.name e.rec_).1.sync M.name).2 ≠ 0 then (((d.append M.name e.rec_).1.sync M.name).1, { M with count := M.count + 1, v := v, broken := true }, ((d.append M.name e.rec_).1.sync M.name).2)
  else (((d.append M.name e.rec_).1.sync M.name).1, { M with count := M.count + 1, v := v }, 0)
/-- A change is saved. -/
def save (d : Sd) (M : Gs) (e : Ed) : Sd × Gs × Nat :=
  if M.broken = true then (d, M, 14)
  else if e.may = false then (d, M, 1)
  else match M.v.app e with
    | none => (d, M, 1)
    | some v => put d M e v
/-- A manifest is written anew. -/
def rewriteM (d : Sd) (M : Gs) : Sd × Gs × Nat :=
  if M.broken = true then (d, M, 14)
  else if 1073741824 < greatest d.list kMan + 1 then (d, M, 65)
  else rewrite d M (name kMan (greatest d.list kMan + 1))
end Gw
theorem Vw.whole_may {v : Vw} (h : v.ok = true) : v.whole.may = true := by
  simp only [Vw.ok, isNum, Bool.and_eq_true, decide_eq_true_eq] at h
  obtain ⟨⟨⟨⟨⟨h1, h2⟩, h3⟩, h4⟩, h5⟩, _⟩ := h
  have e1 : decide (0 ≤ v.log) = true := by simp; omega
  have e2 : decide (v.log ≤ 1073741824) = true := by simp; omega
  simp [Ed.may, Vw.whole, h3, h4, h5]
  exact ⟨e1, e2⟩
theorem Ed.rec_len {e : Ed} (h : e.may = true) : e.rec_.length ≤ 2012 := by
  have := Ed.bytes_len e h
  rw [Ed.rec_, Fr.put_length]
  omega
end Go.Proofs.YthepokgkfaocmaaGreatDoor

/-
  The walk of edit.may, for any changes.
-/
namespace Go.Proofs.YthepokgkfaocmaaGreatDoor
open Go Go.RowKit

theorem any_not {α : Type} (P : α → Bool) (l : List α) : l.any (fun f => !P f) = !l.all P := by
  induction l with
  | nil => rfl
  | cons a r ih => simp only [List.any_cons, List.all_cons, ih, Bool.not_and]
set_option maxRecDepth 100000 in
set_option maxHeartbeats 2000000 in
theorem may_gen (e : Ed) (D : Option Addr) (m d : Nat) (A : Option Addr) (n c : Nat) (w : World) (hm : m ≤ 1000000) (hn : n ≤ 1000000) (hrd : Row w.heap.size w D m 1 (icells e.drop)) (hr : Row w.heap.size w A n 2 (fcells e.add)) :
    Calls Tryz.prog 72 #[e.val D m d A n c] w fun x w' => x = .returned (.bool e.may) ∧ Below w.heap.size w w' := by
  obtain ⟨ds, fs, g, f, ce, a, l⟩ := e
  obtain ⟨b, hb⟩ : ∃ b, b = Ed.may ⟨ds, fs, g, f, ce, a, l⟩ := ⟨_, rfl⟩
  have hfl := hr.flen
  have hdl := hrd.ilen
  rw [← hb]
  unfold Ed.may at hb
  simp only at hb hr hfl hrd hdl
  rw [four_bigs, hfl, hdl] at hb
  unfold Ed.val
  simp only
  by_cases h1 : m ≤ 40
  · by_cases h2 : n ≤ 40
    · by_cases h3 : 0 ≤ g
      · by_cases h4 : g ≤ 1073741824
        · have hrow := u64_row (w.alloc (.cells #[.slice D m d, .slice A n c, .int .i64 g, .int .u64 (f : Int), .int .u64 (ce : Int), .int .u64 (a : Int), .int .u64 (l : Int)] 39)) 29 #[.int .u64 (f : Int), .int .u64 (ce : Int), .int .u64 (a : Int), .int .u64 (l : Int)] [f, ce, a, l] 4 rfl rfl
          have hmeta := meta_any _ 4 4 [f, ce, a, l] _ (by omega) hrow
          have hbl := ((Below.refl w.heap.size w).alloc (Nat.le_refl _) (.cells #[.slice D m d, .slice A n c, .int .i64 g, .int .u64 (f : Int), .int .u64 (ce : Int), .int .u64 (a : Int), .int .u64 (l : Int)] 39)).alloc (by simp) (.cells #[.int .u64 (f : Int), .int .u64 (ce : Int), .int .u64 (a : Int), .int .u64 (l : Int)] 29)
          have hih := ihas_may D m d ds _ hm ((hrd.below hbl).up hbl.size)
          have hfh := fhas_may A n c fs _ hn ((hr.below hbl).up hbl.size)
          rw [any_not] at hih hfh
          have hbb : b = (!bigs [f, ce, a, l] && ds.all isNum && fs.all isFile) := by rw [hb]; simp [h1, h2, h3, h4]
          clear hb hrow hrd hr
          simp only [World.size_alloc] at hmeta
          cases h5 : bigs [f, ce, a, l] with
          | true =>
            rw [h5] at hbb hmeta
            have HB := Lib.hid hbb
            clear hbb h5 hih hfh
            simp only [Bool.not_true] at hmeta
            go_enter Tryz.func72, Tryz.ntmps72
            go_wp2_with fail
            refine hmeta.mono ?_
            rintro e w1 ⟨rfl, rfl⟩
            clear hmeta
            go_wp2
            go_ret
            exact ⟨ret_b (HB.out.trans rfl).symm, hbl⟩
          | false =>
            rw [h5] at hbb hmeta
            cases h6 : ds.all isNum with
            | false =>
              rw [h6] at hbb hih
              have HB := Lib.hid hbb
              clear hbb h5 h6 hfh
              simp only [Bool.not_false] at hmeta hih
              go_enter Tryz.func72, Tryz.ntmps72
              go_wp2_with fail
              refine hmeta.mono ?_
              rintro e w1 ⟨rfl, rfl⟩
              clear hmeta
              go_wp2_with fail
              refine hih.mono ?_
              rintro e w1 ⟨rfl, rfl⟩
              clear hih
              go_wp2
              go_ret
              exact ⟨ret_b (HB.out.trans rfl).symm, hbl⟩
            | true =>
              rw [h6] at hbb hih
              generalize fs.all isFile = y at *
              have HB := Lib.hid hbb
              clear hbb h5 h6
              simp only [Bool.not_true] at hih
              simp only [Bool.not_false] at hmeta
              go_enter Tryz.func72, Tryz.ntmps72
              go_wp2_with fail
              refine hmeta.mono ?_
              rintro e w1 ⟨rfl, rfl⟩
              clear hmeta
              go_wp2_with fail
              refine hih.mono ?_
              rintro e w1 ⟨rfl, rfl⟩
              clear hih
              go_wp2_with fail
              refine hfh.mono ?_
              rintro e w1 ⟨rfl, hb1⟩
              have hbz := later_ hbl hb1
              clear hfh
              cases y
              all_goals
                go_wp2
                go_ret
                exact ⟨ret_b (HB.out.trans rfl).symm, hbz⟩
        · have HB := Lib.hid (hb.trans (show _ = false by simp [h4]))
          clear hb
          go_enter Tryz.func72, Tryz.ntmps72
          go_wp2
          go_ret
          exact ⟨ret_b HB.out.symm, (Below.refl _ _).alloc (Nat.le_refl _) _⟩
      · have HB := Lib.hid (hb.trans (show _ = false by simp [h3]))
        clear hb
        go_enter Tryz.func72, Tryz.ntmps72
        go_wp2
        go_ret
        exact ⟨ret_b HB.out.symm, (Below.refl _ _).alloc (Nat.le_refl _) _⟩
    · have HB := Lib.hid (hb.trans (show _ = false by simp [h2]))
      clear hb
      go_enter Tryz.func72, Tryz.ntmps72
      go_wp2
      go_ret
      exact ⟨ret_b HB.out.symm, (Below.refl _ _).alloc (Nat.le_refl _) _⟩
  · have HB := Lib.hid (hb.trans (show _ = false by simp [h1]))
    clear hb
    go_enter Tryz.func72, Tryz.ntmps72
    go_wp2
    go_ret
    exact ⟨ret_b HB.out.symm, (Below.refl _ _).alloc (Nat.le_refl _) _⟩
end Go.Proofs.YthepokgkfaocmaaGreatDoor

/-
  The walk of slices.Delete at []api.File, of one file.
-/
namespace Go.Proofs.YthepokgkfaocmaaGreatDoor
open Go Go.RowKit
/-- Many cells of a block are stored. -/
theorem BoxO.stores {e : TypeId} {g : Nat} : ∀ (vs : List Value) (o : Nat) (w : World) (xs : List Value), BoxO w e g xs → o + vs.length ≤ xs.length → BoxO (w.setCells g o vs) e g (xs.take o ++ (vs ++ xs.drop (o + vs.length)))
  | [], o, w, xs, h, _ => by simpa [World.setCells] using h
  | v :: r, o, w, xs, h, ho => by
    simp only [List.length_cons] at ho
    have h1 := BoxO.stores r (o + 1) (w.setCell ⟨g, o, none⟩ v) (xs.set o v) (h.store o v) (by simp; omega)
    have e1 : (xs.set o v).take (o + 1) = xs.take o ++ [v] := by
      rw [List.take_succ_eq_append_getElem (by simp; omega), List.take_set_of_le (Nat.le_refl _)]
      simp
    have e2 : (xs.set o v).drop (o + 1 + r.length) = xs.drop (o + (r.length + 1)) := by
      rw [List.drop_set, if_pos (by omega), show o + 1 + r.length = o + (r.length + 1) by omega]
    rw [e1, e2, List.append_assoc] at h1
    simpa [World.setCells] using h1
theorem chg_sets (g : Nat) : ∀ (vs : List Value) (o : Nat) (w w' : World), Chg [g] w w' → Chg [g] w (w'.setCells g o vs)
  | [], _, _, _, h => h
  | v :: r, o, w, w', h => chg_sets g r (o + 1) w _ (h.setCell v (.inl (by simp)))
theorem run_clear_file (w : World) (ty : TypeId) (g o c : Nat) (hc : ∀ j, j < 2 → (w.cell? ⟨g, o + j, none⟩).isSome = true) (hf : ∀ j, j < 2 → w.frozen? ⟨g, o + j, none⟩ = false) :
    (Builtin.clear_ #[28] ty #[.slice (some ⟨g, o, none⟩) 1 c]).run Tryz.prog w = .ok (.tuple #[]) (w.setCells g o [.int .i64 0, .int .i64 0]) := by
  have hst := run_storeCells_cells (P := Tryz.prog) g o [.int .i64 0, .int .i64 0] 0 w (by simpa using hc) (by simpa using hf) (by intro v hv; simp at hv; subst hv; rfl)
  simp only [Nat.add_zero] at hst
  have hz : (zeroValue 114).run Tryz.prog w = .ok (.agg #[.int .i64 0, .int .i64 0]) w := by kernel_rfl
  have hzc : (Builtin.zeroCells (Value.agg #[.int .i64 0, .int .i64 0]).cells 1).toList = [.int .i64 0, .int .i64 0] := by kernel_rfl
  simp [Builtin.clear_, run_underlying Tryz.underlying28, hz, hzc, hst]
theorem info_file : (Tryz.prog.info? 114).map (fun i => (i.zero, i.size, i.bytes)) = some (some (.agg #[.int .i64 0, .int .i64 0]), 2, 16) := by kernel_rfl
set_option maxRecDepth 100000 in
set_option maxHeartbeats 2000000 in
theorem fdel_any (base g n cap i : Nat) (fs : List (Int × Int)) (w : World) (ho : w.ownsRow base 114 2 (.slice (some ⟨g, 0, none⟩) n cap) n (fcells fs)) (hi : i < n) :
    Calls Tryz.prog 76 #[.slice (some ⟨g, 0, none⟩) n cap, .int .i64 (i : Int), .int .i64 ((i : Int) + 1)] w fun e w' => e = .returned (.slice (some ⟨g, 0, none⟩) (n - 1) cap) ∧
      w'.ownsRow base 114 2 (.slice (some ⟨g, 0, none⟩) (n - 1) cap) (n - 1) (fcells (fs.eraseIdx i)) ∧ Chg [g] w w' := by
  obtain ⟨i0, hi0, hz0, hz1, hz2⟩ := info_parts info_file
  have hxl := ho.1
  rw [fcells_len] at hxl
  rcases ho.2 with ⟨_, h0⟩ | ⟨g', cap', cur, hv, hbg, hheap, hn, hcm, hcs, htk⟩
  · omega
  injection hv with hv1 hv2 hv3
  injection hv1 with hv1
  injection hv1 with hv1
  subst hv1 hv3
  clear hv2
  have hB : BoxO w 114 g cur.toList := by unfold BoxO; simpa using hheap
  have hcl : cur.toList.length = cap * 2 := by simpa using hcs
  obtain ⟨k, hk⟩ : ∃ k, n - (i + 1) = k := ⟨_, rfl⟩
  have hgetc : ∀ j, j < n * 2 → w.cell? ⟨g, j, none⟩ = (fcells fs)[j]? := fun j hj => by
    rw [hB.cell, ← htk, List.getElem?_take, if_pos hj]
  obtain ⟨news, hnews⟩ : ∃ news, news = fcells (fs.drop (i + 1)) := ⟨_, rfl⟩
  have hnl : news.length = k * 2 := by rw [hnews, fcells_len, List.length_drop]; omega
  have hnd : news = (fcells fs).drop ((i + 1) * 2) := by rw [hnews, fcells_drop]
  obtain ⟨A, hA, hsrc⟩ : ∃ A : Addr, (if cap = i + 1 then some (⟨g, 0, none⟩ : Addr) else some ⟨g, (i + 1) * 2, none⟩) = some A ∧ Hid (∀ j u, news[j]? = some u → w.drew.cell? (A.add j) = some u) := by
    by_cases h : cap = i + 1
    · refine ⟨⟨g, 0, none⟩, by simp [h], fun j u hu => ?_⟩
      have h0 : news.length = 0 := by rw [hnl]; omega
      rw [List.length_eq_zero_iff.1 h0] at hu
      simp at hu
    · refine ⟨⟨g, (i + 1) * 2, none⟩, by simp [h], fun j u hu => ?_⟩
      have hj : j < k * 2 := by have := (List.getElem?_eq_some_iff.1 hu).1; omega
      rw [Addr.add_lit, show w.drew.cell? ⟨g, (i + 1) * 2 + j, none⟩ = w.cell? ⟨g, (i + 1) * 2 + j, none⟩ from rfl, hgetc _ (by omega), ← hu, hnd, List.getElem?_drop]
  have s1 : Hid (news.length = k * 2) := hnl
  have s2 : Hid (∀ u ∈ news, u.oneCell' = true) := by rw [hnews]; exact fcells_one _
  have s3 : Hid (∀ j, j < news.length → (w.drew.cell? ⟨g, 0 + i * 2 + j, none⟩).isSome = true ∧ w.drew.frozen? ⟨g, 0 + i * 2 + j, none⟩ = false) := by
    intro j hj
    rw [hnl] at hj
    refine ⟨?_, hB.free _⟩
    rw [show w.drew.cell? ⟨g, 0 + i * 2 + j, none⟩ = w.cell? ⟨g, 0 + i * 2 + j, none⟩ from rfl, hB.cell, List.getElem?_eq_getElem (by omega)]
    rfl
  obtain ⟨W1, hW1⟩ : ∃ W1, W1 = w.drew.setCells g (0 + i * 2) news := ⟨_, rfl⟩
  have hB1 : BoxO W1 114 g (cur.toList.take (i * 2) ++ (news ++ cur.toList.drop (i * 2 + news.length))) := by
    rw [hW1, Nat.zero_add]
    exact BoxO.stores news (i * 2) w.drew _ hB.drew (by omega)
  have hC1 : Chg [g] w W1 := by
    rw [hW1]
    exact chg_sets g news _ w _ (Chg.refl _ _).drew
  have hcell : ∀ j, j < 2 → (W1.cell? ⟨g, (i + k) * 2 + j, none⟩).isSome = true := fun j hj => by
    rw [hB1.cell, List.getElem?_eq_getElem (by simp only [List.length_append, List.length_take, List.length_drop]; omega)]
    rfl
  have hclr := fun ty c => run_clear_file W1 ty g ((i + k) * 2) c hcell (fun j hj => hB1.free _)
  have hB2 := BoxO.stores [.int .i64 0, .int .i64 0] ((i + k) * 2) W1 _ hB1 (by simp only [List.length_append, List.length_take, List.length_drop, List.length_cons, List.length_nil]; omega)
  have hC2 := chg_sets g [.int .i64 0, .int .i64 0] ((i + k) * 2) w _ hC1
  obtain ⟨W2, hW2⟩ : ∃ W2, W2 = W1.setCells g ((i + k) * 2) [.int .i64 0, .int .i64 0] := ⟨_, rfl⟩
  rw [← hW2] at hB2 hC2
  simp only [← hW2] at hclr
  have hfin : W2.ownsRow base 114 2 (.slice (some ⟨g, 0, none⟩) (i + k) cap) (i + k) (fcells (fs.eraseIdx i)) := by
    refine ⟨by rw [fcells_len, List.length_eraseIdx_of_lt (by omega)]; omega, .inr ⟨g, cap, _, rfl, hbg, hB2, by omega, hcm, ?_, ?_⟩⟩
    · simp only [List.size_toArray, List.length_append, List.length_take, List.length_drop, List.length_cons, List.length_nil]
      omega
    · have e1 : fcells (fs.eraseIdx i) = (fcells fs).take (i * 2) ++ news := by
        rw [List.eraseIdx_eq_take_drop_succ, fcells_app, fcells_take, hnews]
      have e2 : (fcells fs).take (i * 2) = cur.toList.take (i * 2) := by
        rw [← htk, List.take_take, Nat.min_eq_left (by omega)]
      rw [e1, e2, List.take_append_of_le_length (by simp only [List.length_append, List.length_take, List.length_drop]; omega), List.take_take, Nat.min_eq_left (by omega), ← List.append_assoc,
        List.take_append_of_le_length (by simp only [List.length_append, List.length_take]; omega), List.take_of_length_le (by simp only [List.length_append, List.length_take]; omega)]
  have hik : i + k = n - 1 := by omega
  have HF : Hid (W2.ownsRow base 114 2 (.slice (some ⟨g, 0, none⟩) (n - 1) cap) (n - 1) (fcells (fs.eraseIdx i))) := by rw [← hik]; exact hfin
  have HIK := Lib.hid hik
  have HW := Lib.hid hW1
  have e1 : ((i : Int) == (i : Int) + 1) = false := by simp; omega
  have hic : i ≤ cap := by omega
  have hic1 : i + 1 ≤ cap := by omega
  have hji : 0 ≤ (i : Int) + 1 ∧ (i : Int) + 1 ≤ (n : Int) := by omega
  have hroom : i + k ≤ cap := by omega
  have hkn : i + k ≤ n := by omega
  have hn1 : n - (i + k) = 1 := by omega
  have hnc : (n : Int) ≤ (cap : Int) := by omega
  unfold maxLen at hcm
  clear ho hheap hB hcl hgetc hnews hnl hnd hB1 hC1 hcell hB2 hW2 hfin hik hW1 htk hcs hxl
  go_enter Tryz.func76, Tryz.ntmps76
  go_wp2_with fail
  go_region_law (refine step_append_room rfl (.tmp 22) (.tmp 25) 28 rfl 114 i0 2 Tryz.underlying28 hi0 hz1 g 0 i cap (by simp [Act.eval, Act.put]) A k (cap - (i + 1)) news (by simp [Act.eval, Act.put]) s1.out hsrc.out s2.out hroom s3.out ?_; rw [← HW.out])
  go_wp2_with fail
  go_ret
  exact ⟨congrArg (fun x => Ending.returned (Value.slice (some ⟨g, 0, none⟩) x cap)) HIK.out, HF.out, hC2⟩
end Go.Proofs.YthepokgkfaocmaaGreatDoor
