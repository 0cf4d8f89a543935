/- Texts Led, LedB, CrA, CrB, CrashM, SaveP in one. No conditions. -/
import Derived.Test.YthepokgkfaocmaaGreatDoorBunAE
import Derived.Test.YthepokgkfaocmaaGreatDoorBunAO
import Derived.Test.YthepokgkfaocmaaGreatDoorBunAI
import Derived.Test.YthepokgkfaocmaaGreatDoorBunAJ
import Derived.Test.YthepokgkfaocmaaGreatDoorBunAC
import Derived.Test.YthepokgkfaocmaaGreatDoorBunAA
import Derived.Deep.QuietTactic
import Derived.BigQuiet
import Derived.StillTailTactics
import Derived.IntWalk
import Derived.Test.YthepokgkfaocmaaGreatDoorBunAR
import Derived.Test.YthepokgkfaocmaaGreatDoorBunAF
import Derived.Test.YthepokgkfaocmaaGreatDoorBunAG
import Derived.Test.YthepokgkfaocmaaGreatDoorBunAS

/-
  The walk of a disk's led: its two closures, a search in a row of turns.
-/
namespace Go.Proofs.YthepokgkfaocmaaGreatDoor
open Go Go.RowKit Go.Maps

set_option maxRecDepth 100000 in
set_option maxHeartbeats 1000000 in
theorem led1_any (nb : Nat) (M : Nm) (i : Nat) (p : Addr) (w : World) (hM : NamesAt w nb M.length M) (hp : w.cell? p = some (.int .i64 (i : Int))) :
    Calls Tryz.prog 91 #[.map (some nb), .pointer (some p)] w fun e w' => e = .returned (.bool (M.any fun q => decide (q.2 = i))) ∧ Below w.heap.size w w' := by
  have hplt := World.block_lt_of_cell? w _ hp
  obtain ⟨es, hes0, hpw, hkl⟩ := hM.entries law_s
  have hes : es = M.map Nm.lit1 := by
    unfold Nm.enc at hes0
    injection hes0 with hes0
    exact hes0.symm
  clear hes0
  have HES := Lib.hid hes
  clear hes
  obtain ⟨m, hm⟩ : ∃ m, m = Nm.enc M := ⟨_, rfl⟩
  have hown : w.ownsMap Tryz.prog 9 (plainElem (H := Unit) Tryz.prog 3) nb M.length m := by rw [hm]; exact hM
  have HMN := Lib.hid hm
  clear hm hM
  obtain ⟨R, hR⟩ : ∃ R, R = M.any fun q => decide (q.2 = i) := ⟨_, rfl⟩
  rw [← hR]
  have HR := Lib.hid hR
  clear hR
  go_enter Tryz.func91, Tryz.ntmps91
  go_wp2_with (first
    | (at_range; refine wpList_range_own _ rfl _ 70 rfl 9 3 law_s Tryz.underlying70 _ nb _ m rfl hown ?_; intro w0 hrg0 hg0 hs0)
    | go_in)
  go_frame
  have hb0 : Below w.heap.size w w0 := (Below.refl _ _).grown hg0 (Nat.le_refl _) (fun k hk => by cases hk)
  go_loopw [3] (fun s wr => ∃ (left : Lit → Bool) (cnt : Nat), Hid (∀ q ∈ M, left (.string q.1) = false → q.2 ≠ i) ∧ wr.ranges Tryz.prog 9 (plainElem (H := Unit) Tryz.prog 3) nb w.heap.size M.length m left cnt ∧ Below w.heap.size w wr) (fun _ wr => wr.rangeLeft nb w.heap.size)
  case atStart =>
    refine ⟨_, _, Lib.hid (fun q hq hl => ?_), hrg0, hb0⟩
    exfalso
    rw [show m = _ from HMN.out] at hl
    have h1 : Maps.has (Nm.enc M) (.string q.1) = true := by
      show (M.map Nm.lit1).any (fun p => p.1.sameKey (.string q.1)) = true
      rw [List.any_eq_true]
      exact ⟨_, List.mem_map.2 ⟨q, hq, rfl⟩, WideAt.sameKey_self (hkl (Nm.lit1 q) (by rw [show es = _ from HES.out]; exact List.mem_map.2 ⟨q, hq, rfl⟩))⟩
    rw [h1] at hl
    cases hl
  case round =>
    obtain ⟨left, cnt, hno, hrg, hb⟩ := hrel
    go_wp2_with (first
      | (at_next; refine wpList_next_ranges _ rfl _ rfl 9 law_s _ Value.string (Value.int .i64) ?invK ?invV nb w.heap.size _ m left cnt rfl hrg ?hDone ?hMore)
      | go_in)
    case invK => exact fun key kl hk => by obtain ⟨s, rfl, _⟩ := keyOf_string_inv_ hk; exact ⟨s, rfl⟩
    case invV => exact fun v y hv => by obtain ⟨c, rfl, _⟩ := plainElem_int_inv Tryz.underlying3 hv; exact ⟨c, rfl⟩
    case hDone =>
      intro _ hl0
      have hf : R = false := by
        rw [show R = _ from HR.out, List.any_eq_false]
        intro q hq
        have := hno.out q hq (hl0 _)
        simpa using this
      subst hf
      clear hrg hno
      go_wp2
      go_ret
      exact ⟨rfl, hb⟩
    case hMore =>
      intro x c kl y yp w1 cnt1 hkey hlx hv hat hrg1 hlt hg1 hs1 hen
      obtain ⟨s, hxs, hkl2⟩ := keyOf_string_inv_ hkey
      cases hxs
      have hb1 : Below w.heap.size w w1 := hb.grown hg1 hb.size (fun j hj => by cases hj; exact Nat.le_refl _)
      have hp1 : w1.cell? p = some (.int .i64 (i : Int)) := (hb1.cell (p := p) hplt).trans hp
      have hhas : Maps.has m kl = true := Maps.has_true_of_atKey hat
      subst hkl2
      unfold key at hhas hat hlx hrg1
      obtain ⟨k, hgk⟩ : ∃ k, M.get x.data.toList = some k := by
        rw [show m = _ from HMN.out, Nm.enc_has] at hhas
        exact Option.isSome_iff_exists.1 hhas
      have hia := fun z => Nm.enc_at M x.data.toList z hgk
      have hy : y = .lit (.int .i64 (k : Int)) := by rw [← hat .nil, show m = _ from HMN.out, hia]
      obtain ⟨c', hc', hy2, _⟩ := plainElem_int_inv Tryz.underlying3 hv
      cases hc'
      have hck : c = (k : Int) := by
        have h2 := congrArg Prod.fst hy2
        simp only at h2
        rw [h2] at hy
        injection hy with hy
        injection hy with _ hy
      subst hck
      have hmem := Nm.get_mem hgk
      have HG := Lib.hid hgk
      clear hat hia hv hy2 hy hgk hhas hp hrg0 hown hg0 hs0 hg1 hs1
      by_cases hki : k = i
      · have hf : R = true := by
          rw [show R = _ from HR.out, List.any_eq_true]
          exact ⟨_, hmem, by simp [hki]⟩
        subst hf
        subst hki
        clear hmem hno hrg hrg1 hlt
        go_wp2
        go_ret
        exact ⟨rfl, hb1⟩
      · have e1 : ((k : Int) == (i : Int)) = false := by rw [beq_eq_false_iff_ne]; omega
        have hno' : ∀ q ∈ M, (left (.string q.1) && !(Lit.string q.1).sameKey (.string x.data.toList)) = false → q.2 ≠ i := fun q hq hl => by
          cases h1 : left (.string q.1) with
          | false => exact hno.out q hq h1
          | true =>
            rw [h1] at hl
            have h2 : (q.1 == x.data.toList) = true := by
              have e : (Lit.string q.1).sameKey (.string x.data.toList) = (q.1 == x.data.toList) := rfl
              rw [e] at hl
              simpa using hl
            have h3 : q.1 = x.data.toList := by simpa using h2
            have h4 : Nm.get M q.1 = some k := by rw [h3]; exact HG.out
            have hap : Nm.Apart M := by
              have hpw' := hpw
              rw [show es = _ from HES.out, List.pairwise_map] at hpw'
              exact hpw'.imp (fun {a b} hab e => hab (by simp only [Nm.lit1, e]))
            rw [Nm.mem_get hap hq] at h4
            injection h4 with h4
            rw [h4]
            exact hki
        have HNO := Lib.hid hno'
        clear hno' hno hki hmem
        go_wp2
        go_roundw
        case rel => exact ⟨_, cnt1, HNO, hrg1, hb1⟩
        case measure => rw [hrg1.left_eq, hrg.left_eq]; exact hlt

theorem turnCells_len (t : Tn) : (turnCells t).length = 4 := rfl
/-- The turn at place k, as a walk reads it. -/
theorem Row.turn {B n : Nat} {w : World} {A : Option Addr} {ts : List Tn} (h : Row B w A n 4 (ts.flatMap turnCells)) {k : Nat} (hk : k < n) : ∃ a, ∃ hl : k < ts.length, A = some a ∧ a.block < B ∧ w.cell? (a.add (k * 4)) = some (.int .i64 ((ts[k]).kind : Int)) ∧ w.cell? ⟨(a.add (k * 4)).block, (a.add (k * 4)).off + 1, none⟩ = some (.int .i64 ((ts[k]).file : Int)) ∧
    w.cell? ⟨(a.add (k * 4)).block, (a.add (k * 4)).off + 2, none⟩ = some (.string (str (ts[k]).a)) ∧ w.cell? ⟨(a.add (k * 4)).block, (a.add (k * 4)).off + 3, none⟩ = some (.string (str (ts[k]).b)) := by
  have hlen := h.len
  rw [gflat_len turnCells 4 turnCells_len] at hlen
  have hl : k < ts.length := by omega
  have g := fun j (hj : j < 4) => gflat_get turnCells 4 turnCells_len ts k j hl hj
  obtain ⟨a, ea, hb, c0⟩ := row_cell h (g 0 (by omega))
  have cc : ∀ j v, j < 4 → (turnCells ts[k])[j]? = some v → w.cell? (a.add (k * 4 + j)) = some v := fun j v hj hv => by
    obtain ⟨a', ea', _, c⟩ := row_cell h ((g j hj).trans hv)
    rw [ea] at ea'
    injection ea' with ea'
    subst ea'
    exact c
  have cd : ∀ j v, 0 < j → j < 4 → (turnCells ts[k])[j]? = some v → w.cell? ⟨(a.add (k * 4)).block, (a.add (k * 4)).off + j, none⟩ = some v := fun j v h0 hj hv => by
    rw [← fadd_at a (k * 4) h0]
    exact cc j v hj hv
  exact ⟨a, hl, ea, hb, c0, cd 1 _ (by omega) (by omega) rfl, cd 2 _ (by omega) (by omega) rfl, cd 3 _ (by omega) (by omega) rfl⟩
def Tn.makes (i : Nat) (t : Tn) : Bool := decide (t.kind = 1) && decide (t.file = i)
set_option maxRecDepth 100000 in
theorem led2_any (t : Tn) (i : Nat) (p : Addr) (w : World) (hp : w.cell? p = some (.int .i64 (i : Int))) :
    Calls Tryz.prog 93 #[.agg #[.int .i64 (t.kind : Int), .int .i64 (t.file : Int), .string (str t.a), .string (str t.b)], .pointer (some p)] w fun e w' => e = .returned (.bool (t.makes i)) ∧ Below w.heap.size w w' := by
  have hplt := World.block_lt_of_cell? w _ hp
  have hbz := (Below.refl w.heap.size w).alloc (Nat.le_refl _) (.cells #[.int .i64 (t.kind : Int), .int .i64 (t.file : Int), .string (str t.a), .string (str t.b)] 101)
  have hp1 : (w.alloc (.cells #[.int .i64 (t.kind : Int), .int .i64 (t.file : Int), .string (str t.a), .string (str t.b)] 101)).cell? p = some (.int .i64 (i : Int)) := (hbz.cell (p := p) hplt).trans hp
  obtain ⟨R, hR⟩ : ∃ R, R = t.makes i := ⟨_, rfl⟩
  rw [← hR]
  have HB := Lib.hid hbz
  by_cases h1 : t.kind = 1
  · have e1 : ((t.kind : Int) == 1) = true := by rw [beq_iff_eq]; omega
    by_cases h2 : t.file = i
    · have e2 : ((t.file : Int) == (i : Int)) = true := by rw [beq_iff_eq]; omega
      have hf : R = true := by rw [hR]; simp [Tn.makes, h1, h2]
      subst hf
      clear hR h1 h2 hp hbz
      go_enter Tryz.func93, Tryz.ntmps93
      go_wp2
      go_ret
      exact ⟨rfl, HB.out⟩
    · have e2 : ((t.file : Int) == (i : Int)) = false := by rw [beq_eq_false_iff_ne]; omega
      have hf : R = false := by rw [hR]; simp [Tn.makes, h2]
      subst hf
      clear hR h1 h2 hp hbz
      go_enter Tryz.func93, Tryz.ntmps93
      go_wp2
      go_ret
      exact ⟨rfl, HB.out⟩
  · have e1 : ((t.kind : Int) == 1) = false := by rw [beq_eq_false_iff_ne]; omega
    have hf : R = false := by rw [hR]; simp [Tn.makes, h1]
    subst hf
    clear hR h1 hp hbz
    go_enter Tryz.func93, Tryz.ntmps93
    go_wp2
    go_ret
    exact ⟨rfl, HB.out⟩
set_option maxRecDepth 100000 in
theorem thas_led (i : Nat) (p : Addr) (A : Option Addr) (n c : Nat) (ts : List Tn) (w : World) (hn : n ≤ 4611686018427387904) (hr : Row w.heap.size w A n 4 (ts.flatMap turnCells)) (hp : w.cell? p = some (.int .i64 (i : Int))) :
    Calls Tryz.prog 92 #[.slice A n c, .func (.func 93) #[] #[.pointer (some p)]] w fun e w' => e = .returned (.bool (ts.any (Tn.makes i))) ∧ Below w.heap.size w w' := by
  have hplt := World.block_lt_of_cell? w _ hp
  have hidx : Calls Tryz.prog 118 #[.slice A n c, .func (.func 93) #[] #[.pointer (some p)]] w fun e w' => e = .returned (.int .i64 (fidx (Tn.makes i) ts)) ∧ Below w.heap.size w w' := by
    obtain ⟨P, hP⟩ : ∃ P : Tn → Bool, P = Tn.makes i := ⟨_, rfl⟩
    have hK : ∀ t w1, Below w.heap.size w w1 → Calls Tryz.prog 93 #[.agg #[.int .i64 (t.kind : Int), .int .i64 (t.file : Int), .string (str t.a), .string (str t.b)], .pointer (some p)] w1 fun e w' => e = .returned (.bool (P t)) ∧ Below w1.heap.size w1 w' := fun t w1 hb => by
      rw [hP]
      exact led2_any t i p w1 ((hb.cell (p := p) hplt).trans hp)
    rw [← hP]
    have hnn : ts.length = n := by
      have := hr.len
      rw [gflat_len turnCells 4 turnCells_len] at this
      omega
    have HK := Lib.hid hK
    clear hK hP
    go_enter Tryz.func118, Tryz.ntmps118
    go_wp2
    go_loopw [8] (fun i wr => ∃ k : Nat, k ≤ n ∧ i = .int .i64 (k : Int) ∧ Hid ((ts.take k).any P = false) ∧ Below w.heap.size w wr) (fun i _ => n - (intOf i).toNat)
    case atStart => exact ⟨0, Nat.zero_le _, rfl, Lib.hid rfl, Below.refl _ _⟩
    case round =>
      obtain ⟨k, hk, rfl, hb, hbl⟩ := hrel
      by_cases hlt : k < n
      · obtain ⟨a, hl, rfl, hbk, c0, c1, c2, c3⟩ := (hr.below hbl).turn hlt
        have ht := any_take (P := P) hl
        have hs := fun h1 => fidx_some (P := P) hl hb.out h1
        generalize ts[k] = f at *
        have HT := Lib.hid ht
        have HS := Lib.hid hs
        clear ht hs hl
        have hc := HK.out f wr hbl
        cases hp : P f with
        | true =>
          rw [hp] at hc
          have HP := Lib.hid hp
          clear hp
          go_wp2_with fail
          refine hc.mono ?_
          rintro e w1 ⟨rfl, hb1⟩
          go_wp2
          go_ret
          exact ⟨ret_i (HS.out HP.out).symm, later_ hbl hb1⟩
        | false =>
          rw [hp] at hc
          have HP := Lib.hid hp
          clear hp
          go_wp2_with fail
          refine hc.mono ?_
          rintro e w1 ⟨rfl, hb1⟩
          go_wp2
          go_roundw
          case rel => exact ⟨k + 1, by omega, by go_num, Lib.hid (by rw [HT.out, hb.out, HP.out]; rfl), later_ hbl hb1⟩
          case measure => simp [intOf]; omega
      · have hall : fidx P ts = -1 := fidx_none (by
          have hb' := hb.out
          rwa [List.take_of_length_le (by omega)] at hb')
        have HA := Lib.hid hall
        clear hall
        go_wp2
        go_ret
        exact ⟨ret_i HA.out.symm, hbl⟩
  have hge := fidx_ge (Tn.makes i) ts
  generalize fidx (Tn.makes i) ts = j at *
  have HGE := Lib.hid hge
  clear hge
  go_enter Tryz.func92, Tryz.ntmps92
  go_wp2_with fail
  refine hidx.mono ?_
  rintro e w1 ⟨rfl, hb⟩
  clear hidx
  go_wp2
  go_ret
  exact ⟨ret_b HGE.out, hb⟩
end Go.Proofs.YthepokgkfaocmaaGreatDoor

/-
  The walk of a disk's led.
-/
namespace Go.Proofs.YthepokgkfaocmaaGreatDoor
open Go Go.RowKit Go.Maps
theorem led_take (S : Sd) (k : Nat) : (List.range (k + 1)).filter S.isLed = (List.range k).filter S.isLed ++ if S.isLed k then [k] else [] := by
  rw [List.range_succ, List.filter_append]
  congr 1
  by_cases h : S.isLed k <;> simp [h]
def ncells (l : List Nat) : List Value := l.map fun (n : Nat) => .int .i64 (n : Int)
set_option maxRecDepth 100000 in
set_option maxHeartbeats 4000000 in
theorem led_any (X : Dw) (S : Sd) (w : World) (h : DK w X S) (hload : S.load ≤ 1099511627776) :
    Calls Tryz.prog 59 #[.pointer (some ⟨X.d, 0, none⟩)] w fun e w' => ∃ A c, e = .returned (.slice A S.led.length c) ∧ S.led.length ≤ c ∧ c ≤ maxLen ∧ w'.ownsRow w.heap.size 3 1 (.slice A S.led.length c) S.led.length (ncells S.led) ∧ Below w.heap.size w w' := by
  obtain ⟨fA, fc, hfv, hfn, hfm, _⟩ := own_form h.files
  obtain ⟨tA, tc, htv, htn, htm, _⟩ := own_form h.turns
  have hF : S.files.length ≤ 1099511627776 ∧ S.turns.length ≤ 1099511627776 := by unfold Sd.load at hload; omega
  have hcells : ∀ W, Below w.heap.size w W → W.cell? ⟨X.d, 1, none⟩ = some (.slice fA S.files.length fc) ∧ W.cell? ⟨X.d, 2, none⟩ = some (.map (some X.nb)) ∧ W.cell? ⟨X.d, 3, none⟩ = some (.map (some X.lb)) ∧ W.cell? ⟨X.d, 4, none⟩ = some (.slice tA S.turns.length tc) := fun W hb => by
    have hB := (h.below hb).box
    have d1 := hB.cell 1
    have d2 := hB.cell 2
    have d3 := hB.cell 3
    have d4 := hB.cell 4
    simp only [Dw.cells, List.getElem?_cons_zero, List.getElem?_cons_succ] at d1 d2 d3 d4
    rw [hfv] at d1
    rw [htv] at d4
    exact ⟨d1, d2, d3, d4⟩
  have hth := fun (i : Nat) (p : Addr) W (hb : Below w.heap.size w W) (hp : W.cell? p = some (.int .i64 (i : Int))) => thas_led i p tA S.turns.length tc S.turns W (by omega) (by have := (h.below hb).turns; rw [htv] at this; exact Row.own this) hp
  have hln := fun (i : Nat) (p : Addr) W (hb : Below w.heap.size w W) (hp : W.cell? p = some (.int .i64 (i : Int))) => led1_any X.nb S.names i p W (h.below hb).names hp
  have hll := fun (i : Nat) (p : Addr) W (hb : Below w.heap.size w W) (hp : W.cell? p = some (.int .i64 (i : Int))) => led1_any X.lb S.lasted i p W (h.below hb).lasted hp
  have HC := Lib.hid hcells
  have HTH := Lib.hid hth
  have HLN := Lib.hid hln
  have HLL := Lib.hid hll
  have hdlt := h.box.lt
  obtain ⟨ii, hi0, hi1, hi2, hi3⟩ := info_parts info_int
  obtain ⟨d1, d2, d3, d4⟩ := hcells w (Below.refl _ _)
  clear hcells hth hln hll hfv htv h hload d2 d3 d4
  go_enter Tryz.func59, Tryz.ntmps59
  go_wp2
  go_loopw [3, 12] (fun o i wr => ∃ (k : Nat) (oA : Option Addr) (oc : Nat), k ≤ S.files.length ∧ i = .int .i64 (k : Int) ∧ o = .slice oA ((List.range k).filter S.isLed).length oc ∧ ((List.range k).filter S.isLed).length ≤ oc ∧ oc ≤ maxLen ∧ wr.ownsRow w.heap.size 3 1 (.slice oA ((List.range k).filter S.isLed).length oc) ((List.range k).filter S.isLed).length (ncells ((List.range k).filter S.isLed)) ∧ Below w.heap.size w wr) (fun _ i _ => S.files.length - (intOf i).toNat)
  case atStart => exact ⟨0, none, 0, Nat.zero_le _, rfl, rfl, Nat.le_refl _, Nat.zero_le _, (World.ownsRow_nil w w.heap.size 3 1 : w.ownsRow _ _ _ (.slice none 0 0) 0 []), Below.refl _ _⟩
  case round =>
    obtain ⟨k, oA, oc, hk, rfl, rfl, hoc, hom, hown, hb⟩ := hrel
    by_cases hlt : k < S.files.length
    · have hstep := led_take S k
      obtain ⟨L, hL⟩ : ∃ L, L = (List.range k).filter S.isLed := ⟨_, rfl⟩
      have hLl : L.length ≤ k := by rw [hL]; have := List.length_filter_le S.isLed (List.range k); simpa using this
      rw [← hL] at hown hstep hoc
      have hba := hb.alloc hb.size (.cells #[.int .i64 (k : Int)] 3)
      have hp : (wr.alloc (.cells #[.int .i64 (k : Int)] 3)).cell? ⟨wr.heap.size, 0, none⟩ = some (.int .i64 (k : Int)) := by simp
      have hown1 := own_below hown ((Below.refl wr.heap.size wr).alloc (Nat.le_refl _) (.cells #[.int .i64 (k : Int)] 3))
      have HLE := Lib.hid hL
      have HST := Lib.hid hstep
      obtain ⟨d1', d2', d3', d4'⟩ := HC.out _ hba
      have hth := HTH.out k _ _ hba hp
      have hplt : wr.heap.size < (wr.alloc (.cells #[.int .i64 (k : Int)] 3)).heap.size := by simp
      rw [← show L = _ from hL]
      obtain ⟨made, hmade⟩ : ∃ b, b = S.turns.any (Tn.makes k) := ⟨_, rfl⟩
      rw [← hmade] at hth
      have HMD := Lib.hid hmade
      clear hL hstep hown hmade
      go_wp2_with fail
      refine hth.mono ?_
      rintro e w2 ⟨rfl, hb2⟩
      have hb02 := later_ hba hb2
      have hp2 := (hb2.cell (p := ⟨wr.heap.size, 0, none⟩) hplt).trans hp
      have hown2 := own_below hown1 hb2
      have hpl2 : wr.heap.size < w2.heap.size := Nat.lt_of_lt_of_le hplt hb2.size
      clear hth hown1 d1' d2' d3' d4' hba hp hb2 hplt
      go_upto_region 7 with (fail)
      go_cut [38] from 22 to 38 (fun t wx => t = .bool (S.isLed k) ∧ Below w2.heap.size w2 wx)
      case first =>
        obtain ⟨d1', d2', d3', d4'⟩ := HC.out _ hb02
        have hln := HLN.out k _ _ hb02 hp2
        cases made with
        | true =>
          have hm : S.turns.any (Tn.makes k) = true := HMD.out.symm
          have he : S.isLed k = true := by
            unfold Sd.isLed
            rw [show (S.turns.any fun t => decide (t.kind = 1) && decide (t.file = k)) = true from hm]
            rfl
          have HEE := Lib.hid he
          clear he hm hln
          go_wp2
          go_meet
          exact ⟨by rw [HEE.out], Below.refl _ _⟩
        | false =>
          have hm : S.turns.any (Tn.makes k) = false := HMD.out.symm
          have hm1 := Lib.hid hm
          go_wp2_with fail
          refine hln.mono ?_
          rintro e w3 ⟨rfl, hb3⟩
          have hb03 := later_ hb02 hb3
          have hp3 := (hb3.cell (p := ⟨wr.heap.size, 0, none⟩) hpl2).trans hp2
          have hll := HLL.out k _ _ hb03 hp3
          clear hln hm d1' d2' d3' d4'
          obtain ⟨d1', d2', d3', d4'⟩ := HC.out _ hb03
          cases hm : S.names.any (fun q => decide (q.2 = k)) with
          | true =>
            have he : S.isLed k = true := by
              unfold Sd.isLed
              rw [hm]
              simp
            have HEE := Lib.hid he
            clear he hm hll
            go_wp2
            go_meet
            exact ⟨by rw [HEE.out], hb3⟩
          | false =>
            have hm2 := Lib.hid hm
            clear hm
            have he : S.isLed k = S.lasted.any (fun q => decide (q.2 = k)) := by
              unfold Sd.isLed
              rw [hm2.out, show (S.turns.any fun t => decide (t.kind = 1) && decide (t.file = k)) = false from hm1.out]
              rfl
            have HEE := Lib.hid he
            clear he
            go_wp2_with fail
            refine hll.mono ?_
            rintro e w4 ⟨rfl, hb4⟩
            clear hll
            go_wp2
            go_meet
            exact ⟨by rw [HEE.out], later_ hb3 hb4⟩
      case rest =>
        obtain ⟨rfl, hb3⟩ := hcut
        have hb03 := later_ hb02 hb3
        have hp3 := (hb3.cell (p := ⟨wr.heap.size, 0, none⟩) hpl2).trans hp2
        have hown3 := own_below hown2 hb3
        clear hown2 hp2
        cases hq : S.isLed k with
        | true =>
          have hst := HST.out
          rw [hq, if_pos rfl] at hst
          have HS2 := Lib.hid hst
          have hkr := Row.new wc #[.int .i64 (k : Int)] 3 (n := 1) (size := 1) rfl
          clear hst hq
          go_wp2_with (at_builtin; refine stop_in ?_)
          refine stop_out (wpList_appF rfl (.tmp 39) (.tmp 41) _ rfl w.heap.size 3 ii _ 1 8 Tryz.underlying37 hi0 hi1 hi2 hi3 rfl (by omega) w (hb03.alloc hb03.size _) (Nat.le_trans hb03.size (by simp)) (.slice oA L.length oc) L.length (ncells L) rfl (own_below hown3 ((Below.refl _ _).alloc (Nat.le_refl _) _)) (wc.heap.size + 1) _ 1 1 (by omega) [.int .i64 (k : Int)] rfl hkr (by intro u hu; simp at hu; subst hu; rfl) (L.length + 1) (ncells (L ++ [k])) rfl (by simp [ncells]) (by unfold maxLen; omega) (by omega) ?_)
          intro A3 c3 w5 hown5 hbb5 hg5 hc5 hm5 hv5
          have hkk : (L ++ [k]).length = L.length + 1 := by simp
          go_wp2
          go_roundw
          case rel => exact ⟨k + 1, A3, c3, by omega, by go_num, by rw [show (List.range (k + 1)).filter S.isLed = _ from HS2.out, hkk], by rw [show (List.range (k + 1)).filter S.isLed = _ from HS2.out, hkk]; exact hc5, hm5, by rw [show (List.range (k + 1)).filter S.isLed = _ from HS2.out, hkk]; exact hown5, hbb5⟩
          case measure => simp [intOf]; omega
        | false =>
          have hst := HST.out
          rw [hq, if_neg (by decide), List.append_nil] at hst
          have HS2 := Lib.hid hst
          clear hst hq
          go_wp2
          go_roundw
          case rel => exact ⟨k + 1, oA, oc, by omega, by go_num, by rw [show (List.range (k + 1)).filter S.isLed = _ from HS2.out], by rw [show (List.range (k + 1)).filter S.isLed = _ from HS2.out]; exact hoc, hom, by rw [show (List.range (k + 1)).filter S.isLed = _ from HS2.out]; exact hown3, hb03⟩
          case measure => simp [intOf]; omega
    · obtain rfl : k = S.files.length := by omega
      go_wp2
      go_ret
      exact ⟨oA, oc, rfl, hoc, hom, hown, hb⟩
end Go.Proofs.YthepokgkfaocmaaGreatDoor

/-
  The walk of the closure that Crash asks what is kept.
-/
namespace Go.Proofs.YthepokgkfaocmaaGreatDoor
open Go Go.RowKit Go.Maps
/-- The rest of a row of ints, in a box of its own. -/
structure Kp (Z : List Nat) (B : Nat) (w : World) (g : Nat) (ks : List Int) (A : Option Addr) (n c : Nat) : Prop where
  box : BoxO w 37 g [.slice A n c]
  row : Row B w A n 1 (icells ks)
  nc : n ≤ c
  cm : c ≤ maxLen
  off : ∀ j, j < (icells ks).length → ∀ a, A = some a → a.block ∉ Z
theorem Kp.chg {Z : List Nat} {B g n c : Nat} {w w' : World} {ks : List Int} {A : Option Addr} {F : List Nat} (h : Kp Z B w g ks A n c) (k : Chg F w w') (hB : B ≤ w.heap.size) (hg : g ∉ F) (hF : ∀ b ∈ F, B ≤ b ∨ b ∈ Z) : Kp Z B w' g ks A n c :=
  ⟨h.box.chg k hg, row_chg k h.row hB (fun j hj a ha hm => by
    have h1 := row_lt h.row hj ha
    rcases hF _ hm with h2 | h2
    · omega
    · exact h.off j hj a ha h2), h.nc, h.cm, h.off⟩
theorem Kp.below {Z : List Nat} {B g n c : Nat} {w w' : World} {ks : List Int} {A : Option Addr} (h : Kp Z B w g ks A n c) (k : Below w.heap.size w w') (hB : B ≤ w.heap.size) : Kp Z B w' g ks A n c := h.chg (Chg.of_below k []) hB (by simp) (by simp)
set_option maxRecDepth 100000 in
theorem next_any (Z : List Nat) (B g : Nat) (ks : List Int) (nn : Int) (w : World) (A : Option Addr) (n c : Nat) (h : Kp Z B w g ks A n c) (hB : B ≤ g) :
    Calls Tryz.prog 58 #[.int .i64 nn, .pointer (some ⟨g, 0, none⟩)] w fun e w' => e = .returned (.int .i64 (Sd.next ks nn).1) ∧ Chg [g] w w' ∧ ∃ A' n' c', Kp Z B w' g (Sd.next ks nn).2 A' n' c' := by
  have hl : ks.length = n := h.row.ilen
  have c0 := h.box.cell 0
  have f0 := h.box.free 0
  simp only [List.getElem?_cons_zero] at c0
  have hcm := h.cm
  have hnc := h.nc
  unfold maxLen at hcm
  cases ks with
  | nil =>
    have hn0 : n = 0 := by simpa using hl.symm
    subst hn0
    have H := Lib.hid h
    clear hl h f0
    go_enter Tryz.func58, Tryz.ntmps58
    go_wp2
    go_ret
    exact ⟨rfl, Chg.refl _ _, A, 0, c, H.out⟩
  | cons x r =>
    simp only [List.length_cons] at hl
    have hn0 : 0 < n := by omega
    obtain ⟨a, v, rfl, hab, hv, hcell⟩ := h.row.at1 hn0
    have hvx : v = .int .i64 x := by simpa [icells] using hv.symm
    subst hvx
    have hne : a.block ≠ g := by omega
    have hcell' : w.cell? a = some (.int .i64 x) := by simpa [Addr.add] using hcell
    have hrow := fun A' (hA : 1 < n → A' = (some a).map (·.add (1 * 1))) => h.row.cut (k := 1) (m := n) (by omega) (Nat.le_refl n) (A' := A') hA
    have hrl : icells r = ((icells (x :: r)).drop (1 * 1)).take ((n - 1) * 1) := by
      rw [List.take_of_length_le (by simp [icells]; omega)]
      simp [icells]
    rw [← hrl] at hrow
    have hoff := h.off
    have hst := fun A' => h.box.store 0 (.slice A' (n - 1) (c - 1))
    simp only [List.set_cons_zero] at hst
    have hfin : ∀ A' : Option Addr, (1 < n → A' = (some a).map (·.add (1 * 1))) → Kp Z B (w.setCell ⟨g, 0, none⟩ (.slice A' (n - 1) (c - 1))) g r A' (n - 1) (c - 1) := fun A' hA => ⟨hst A', (hrow A' hA).setCell hB _, by omega, by unfold maxLen; omega, fun j hj a' ha => by
      have h1 : 1 < n := by simp [icells] at hj; omega
      rw [hA h1] at ha
      injection ha with ha
      subst ha
      rw [add_block]
      exact hoff 0 (by simp [icells]) a rfl⟩
    have HF := Lib.hid hfin
    have hcg : ∀ v, Chg [g] w (w.setCell ⟨g, 0, none⟩ v) := fun v => chg_set w ⟨g, 0, none⟩ v
    have HCG := Lib.hid hcg
    have hn1 : ((n : Int) == 0) = false := by rw [beq_eq_false_iff_ne]; omega
    obtain ⟨n1, hn2⟩ : ∃ n1 : Nat, n1 = n - 1 := ⟨_, rfl⟩
    clear hrow hrl hst hfin hcg hl hv hcell h hoff
    by_cases hc1 : c = 1
    · subst hc1
      have hn11 : n = 1 := by omega
      subst hn11
      go_enter Tryz.func58, Tryz.ntmps58
      go_wp2
      go_ret
      exact ⟨rfl, HCG.out _, _, _, _, HF.out _ (fun h => absurd h (by decide))⟩
    · have hc2 : 1 < c := by omega
      have hc3 : (1 : Int) < (c : Int) := by omega
      have hn3 : (1 : Int) ≤ (n : Int) := by omega
      clear hc1
      go_enter Tryz.func58, Tryz.ntmps58
      go_wp2
      go_ret
      exact ⟨rfl, HCG.out _, _, _, _, HF.out _ (fun _ => rfl)⟩
end Go.Proofs.YthepokgkfaocmaaGreatDoor

/-
  The walk of a disk's Crash.
-/
namespace Go.Proofs.YthepokgkfaocmaaGreatDoor
open Go Go.RowKit Go.Maps
theorem odd_mask (a : Int) : bits .and .i64 a 1 = a % 2 := by
  have e : bits .and .i64 a 1 = IntKind.i64.wrap ((BitVec.ofInt 64 a &&& BitVec.ofInt 64 1).toNat : Int) := rfl
  have h1 : (BitVec.ofInt 64 (1 : Int)).toNat = 1 := by decide
  rw [e, BitVec.toNat_and, h1, Nat.and_one_is_mod, BitVec.toNat_ofInt, IntKind.wrap_i64]
  omega
theorem turns_step {t : Tn} {r : List Tn} {m : Nm} {ks : List Int} : Sd.doTurns (t :: r) m ks = Sd.doTurns r (if (Sd.next ks 0).1 % 2 = 0 then t.go m else m) (Sd.next ks 0).2 := rfl
theorem DK.setLasted {w w' : World} {X : Dw} {S : Sd} {n : Nat} {M : Nm} (h : DK w X S) (hn : NamesAt w' X.lb n M) (c : Chg [X.lb] w w') : DK w' X { S with lasted := M } := by
  have a := h.apart
  exact ⟨h.box.chg c (by simpa using a.d_lb), map_chg h.names c (by simpa using a.nb_lb), names_tight hn, own_chg h.files c (fun g e => by simpa using (a.fv g e).2.2.1), fun i hi h2 => (h.file i hi h2).chg c (fun g e => by simpa using (a.ps _ (List.getElem_mem h2) g e).2.2.1),
    own_chg h.turns c (fun g e => by simpa using (a.tv g e).2.2.1), h.nodup⟩
theorem names_apart {w : World} {b n : Nat} {M : Nm} (h : NamesAt w b n M) : Nm.Apart M := by
  obtain ⟨es, hes0, hpw, _⟩ := h.entries law_s
  have hes : es = M.map Nm.lit1 := by
    unfold Nm.enc at hes0
    injection hes0 with hes0
    exact hes0.symm
  rw [hes, List.pairwise_map] at hpw
  exact hpw.imp (fun {a b} hab e => hab (by simp only [Nm.lit1, e]))
/-- Files as they may be. -/
def Fok (n : Nat) (fs : List (List UInt8 × Nat)) : Prop := fs.length = n ∧ ∀ (i : Nat) (f : List UInt8 × Nat), fs[i]? = some f → f.2 ≤ f.1.length ∧ f.1.length ≤ 250000
theorem kept_range (n : Nat) (x : Int) : Sd.kept n x ≤ n := by
  unfold Sd.kept
  have h1 := Int.emod_nonneg x (show ((n : Int) + 1) ≠ 0 by omega)
  have h2 := Int.emod_lt_of_pos x (show (0 : Int) < (n : Int) + 1 by omega)
  omega
theorem kept_cases (n : Nat) (x : Int) : (x.tmod ((n : Int) + 1) = (Sd.kept n x : Int)) ∨ (x.tmod ((n : Int) + 1) < 0 ∧ -(n : Int) ≤ x.tmod ((n : Int) + 1) ∧ x.tmod ((n : Int) + 1) + ((n : Int) + 1) = (Sd.kept n x : Int)) := by
  unfold Sd.kept
  have h1 := Int.emod_nonneg x (show ((n : Int) + 1) ≠ 0 by omega)
  have h2 := Int.emod_lt_of_pos x (show (0 : Int) < (n : Int) + 1 by omega)
  rw [Int.toNat_of_nonneg h1]
  rcases Int.lt_or_le x 0 with hx | hx
  · have e0 := Int.mul_tdiv_add_tmod x ((n : Int) + 1)
    have e1 : x % ((n : Int) + 1) = (x.tmod ((n : Int) + 1)) % ((n : Int) + 1) := by
      conv => lhs; rw [← e0, Int.add_comm, Int.add_mul_emod_self_left]
    have e2 : x.tmod ((n : Int) + 1) = -((-x).tmod ((n : Int) + 1)) := by rw [Int.neg_tmod, Int.neg_neg]
    have e3 := Int.tmod_nonneg ((n : Int) + 1) (show 0 ≤ -x by omega)
    have e4 := Int.tmod_lt_of_pos (-x) (show (0 : Int) < (n : Int) + 1 by omega)
    generalize x.tmod ((n : Int) + 1) = t at *
    generalize (-x).tmod ((n : Int) + 1) = u at *
    rcases Int.lt_or_le t 0 with ht | ht
    · right
      refine ⟨ht, by omega, ?_⟩
      have e5 : (t + ((n : Int) + 1)) % ((n : Int) + 1) = t % ((n : Int) + 1) := by simp
      rw [Int.emod_eq_of_lt (by omega) (by omega)] at e5
      rw [e1, ← e5]
    · left
      rw [e1, Int.emod_eq_of_lt ht (by omega)]
  · left
    exact Int.tmod_eq_emod_of_nonneg hx
theorem cut_zero {i : Nat} {r : List Nat} {fs : List (List UInt8 × Nat)} {ks : List Int} {f : List UInt8 × Nat} (hf : fs[i]? = some f) (h : f.1.length - f.2 = 0) : Sd.cutFiles (i :: r) fs ks = Sd.cutFiles r fs ks := by
  have hg : fs.getD i ([], 0) = f := by rw [List.getD_eq_getElem?_getD, hf]; rfl
  rw [Sd.cutFiles, hg, if_pos h]
theorem cut_more {i n : Nat} {r : List Nat} {fs : List (List UInt8 × Nat)} {ks : List Int} {f : List UInt8 × Nat} (hf : fs[i]? = some f) (h : f.1.length - f.2 = n) (hn : n ≠ 0) : Sd.cutFiles (i :: r) fs ks = Sd.cutFiles r (fs.set i (f.1.take (f.2 + Sd.kept n (Sd.next ks n).1), f.2 + Sd.kept n (Sd.next ks n).1)) (Sd.next ks n).2 := by
  have hg : fs.getD i ([], 0) = f := by rw [List.getD_eq_getElem?_getD, hf]; rfl
  have hk := kept_range n (Sd.next ks n).1
  rw [Sd.cutFiles, hg, if_neg (by omega), h]
  simp only [List.length_take]
  rw [Nat.min_eq_left (by omega)]
set_option maxRecDepth 100000 in
set_option maxHeartbeats 4000000 in
theorem crash_any (X : Dw) (S : Sd) (w : World) (A : Option Addr) (n c : Nat) (ks : List Int) (hw : S.Wf) (hload : S.load ≤ 1099511627776) (h : DK w X S) (hr : Row w.heap.size w A n 1 (icells ks)) (hn : n ≤ c) (hc : c ≤ maxLen) (hA : ∀ j, j < (icells ks).length → ∀ a, A = some a → a.block ∉ X.foot) (hbs : ∀ t ∈ S.turns, t.b.length ≤ 1000) (hlm : S.lasted.length ≤ 1099511627776) :
    Calls Tryz.prog 34 #[.pointer (some ⟨X.d, 0, none⟩), .slice A n c] w fun e w' => e = .returned (.tuple #[]) ∧ Upd X w w' (S.crash ks) := by
  have hb0 := (Below.refl w.heap.size w).alloc (Nat.le_refl _) (.cells #[.slice A n c] 37)
  have hbx0 := BoxO.new w #[.slice A n c] 37
  have hD0 := h.below hb0
  have hled := led_any X S _ hD0 hload
  have hk0 : Kp X.foot w.heap.size (w.alloc (.cells #[.slice A n c] 37)) w.heap.size ks A n c := ⟨hbx0, hr.below hb0, hn, hc, hA⟩
  have hgX : ∀ (X1 : Dw), (∀ g ∈ X1.foot, g ∈ X.foot ∨ w.heap.size + 1 ≤ g) → w.heap.size ∉ X1.foot := fun X1 hf hm => by
    rcases hf _ hm with h1 | h1
    · have := h.lt _ h1; omega
    · omega
  have hLi : ∀ i ∈ S.led, i < S.files.length := fun i hi => by
    unfold Sd.led at hi
    exact List.mem_range.1 (List.mem_filter.1 hi).1
  obtain ⟨L, hL⟩ : ∃ L, L = S.led := ⟨_, rfl⟩
  rw [← hL] at hled hLi
  obtain ⟨C, hC⟩ : ∃ C, C = Sd.cutFiles L S.files ks := ⟨_, rfl⟩
  have hcr : S.crash ks = { S with files := C.1, names := Sd.doTurns S.turns S.lasted C.2, lasted := Sd.doTurns S.turns S.lasted C.2, turns := [], dead := false, stop := 0, fail := 0 } := by rw [hC, hL]; rfl
  have hfok : Fok S.files.length S.files := ⟨rfl, fun i f hf => by
    obtain ⟨hi, e⟩ := List.getElem?_eq_some_iff.1 hf
    rw [← e]
    exact hw.file i hi⟩
  have HCR := Lib.hid hcr
  have HC := Lib.hid hC
  have HLI := Lib.hid hLi
  have HGX := Lib.hid hgX
  have HFOK := Lib.hid hfok
  have HLL : Hid (L.length ≤ 1099511627776) := Lib.hid (by
    rw [hL]
    unfold Sd.led
    have := List.length_filter_le S.isLed (List.range S.files.length)
    rw [List.length_range] at this
    unfold Sd.load at hload
    omega)
  have hsz0 : (w.alloc (.cells #[.slice A n c] 37)).heap.size = w.heap.size + 1 := by simp
  have HW := Lib.hid hw
  have HBS := Lib.hid hbs
  clear hbs
  have hlt0 := h.box.lt
  have hXlt := h.lt
  clear hcr hC hL hLi hgX hbx0 hfok hr hA h hw
  generalize hW0 : w.alloc (.cells #[.slice A n c] 37) = W0 at *
  go_enter Tryz.func34, Tryz.ntmps34
  go_wp2_with fail
  refine hled.mono ?_
  rintro e w1 ⟨lA, lc, rfl, hllc, hlcm, hown1, hb1⟩
  have hD1 := hD0.below hb1
  have hk1 := hk0.below hb1 (by rw [hsz0]; omega)
  have hb01 : Below w.heap.size w w1 := hb0.trans (hb1.mono hb0.size)
  have hown1' : w1.ownsRow (w.heap.size + 1) 3 1 (.slice lA L.length lc) L.length (ncells L) := by rw [← hsz0]; exact hown1
  have hsz1 : w.heap.size + 1 ≤ w1.heap.size := by rw [← hsz0]; exact hb1.size
  have hcg1 : Chg X.foot w w1 := Chg.of_below hb01 X.foot
  have hL6 : L.length ≤ 1099511627776 := by have := HLL.out; omega
  clear hled hD0 hk0 hb1 hown1 hb0 hsz0
  go_wp2_with fail
  go_loopw [16] (fun jj wr => ∃ (j : Nat) (fs : List (List UInt8 × Nat)) (ks1 : List Int) (X1 : Dw) (A1 : Option Addr) (n1 c1 : Nat), j ≤ L.length ∧ jj = .int .i64 (j : Int) ∧ X1.d = X.d ∧ DK wr X1 { S with files := fs } ∧ Chg X.foot w wr ∧ w.heap.size + 1 ≤ wr.heap.size ∧ (∀ g ∈ X1.foot, g ∈ X.foot) ∧ Kp X.foot w.heap.size wr w.heap.size ks1 A1 n1 c1 ∧ wr.ownsRow (w.heap.size + 1) 3 1 (.slice lA L.length lc) L.length (ncells L) ∧ Hid (Fok S.files.length fs) ∧ Hid (Sd.cutFiles (L.drop j) fs ks1 = C)) (fun jj _ => L.length - (intOf jj).toNat)
  case atStart => exact ⟨0, S.files, ks, X, A, n, c, Nat.zero_le _, rfl, rfl, hD1, hcg1, hsz1, fun _ h => h, hk1, hown1', HFOK, Lib.hid (by rw [List.drop_zero]; exact HC.out.symm)⟩
  case round =>
    obtain ⟨j, fs, ks1, X1, A1, n1, c1, hj, rfl, hxd, hD, hcg, hsz, hfX, hkp, hown, hfk, hcut⟩ := hrel
    clear hD1 hk1 hown1' hcg1 hsz1 hb01
    by_cases hlt : j < L.length
    · obtain ⟨la, v, hla, hlb, hlv, hlc⟩ := (Row.own hown).at1 hlt
      subst hla
      obtain ⟨i, hi⟩ : ∃ i, i = L[j] := ⟨_, rfl⟩
      have hvi : v = .int .i64 (i : Int) := by rw [hi]; simp [ncells, hlt] at hlv; exact hlv.symm
      subst hvi
      have hiF : i < fs.length := by rw [hfk.out.1, hi]; exact HLI.out _ (List.getElem_mem hlt)
      have hdr : L.drop j = i :: L.drop (j + 1) := by rw [hi]; exact List.drop_eq_getElem_cons hlt
      have hcut' := hcut.out
      rw [hdr] at hcut'
      have hip : i < X1.ps.length := by rw [hD.flen]; exact hiF
      obtain ⟨f, hf⟩ : ∃ f, f = fs[i] := ⟨_, rfl⟩
      have hfi : fs[i]? = some f := by rw [hf]; exact List.getElem?_eq_getElem hiF
      have hfo := hfk.out.2 i f hfi
      have hD1c := hD.box.cell 1
      simp only [Dw.cells, List.getElem?_cons_zero, List.getElem?_cons_succ] at hD1c
      rw [hxd] at hD1c
      obtain ⟨gf, capf, hfv, hfc, hfm⟩ := hD.fileAt hiF
      rw [hfv] at hD1c
      have hptr : X1.ps.getD i (0, Go.undef) = X1.ps[i] := by simp [List.getD_eq_getElem?_getD, hip]
      rw [hptr] at hfc
      have hfile : FileAt wr X1.ps[i] f := by rw [hf]; exact hD.file i hiF hip
      have key := fun (W w2 : World) (hDW : DK W X1 { S with files := fs }) (v : Value) (f2 : List UInt8 × Nat) (hf2 : FileAt w2 ((X1.ps[i]).1, v) f2) (cc : Chg (fileFoot X1.ps[i]) W w2) (hv : ∀ g, v.ownBlock = some g → (X1.ps[i]).2.ownBlock = some g) => DK.setFile hDW hip hf2 cc (fun g e => .inl (hv g e))
      have hfs := fun (v : Value) (hv : ∀ g, v.ownBlock = some g → (X1.ps[i]).2.ownBlock = some g) (g : Nat) (hg : g ∈ ({ X1 with ps := X1.ps.set i ((X1.ps[i]).1, v) } : Dw).foot) => (foot_set hip (n := g + 1) (fun g e => .inl (hv g e)) g hg).resolve_right (by omega)
      have hffo := fun g hg => file_foot (X := X1) (i := i) hip (g := g) hg
      have hself := hD.apart.self _ (List.getElem_mem hip)
      have hiF' : (i : Int) < (fs.length : Int) := by omega
      generalize X1.ps[i] = p at *
      obtain ⟨pb, pv⟩ := p
      obtain ⟨hfb, hfr⟩ := hfile
      simp only at hfb hfr
      obtain ⟨bA, bc, hbv, hbn, hbm, _⟩ := own_form hfr
      subst hbv
      have e0 := hfb.cell 0
      have e1 := hfb.cell 1
      have z0 := hfb.free 0
      have z1 := hfb.free 1
      simp only [List.getElem?_cons_zero, List.getElem?_cons_succ] at e0 e1
      obtain ⟨nn, hnn⟩ : ∃ nn : Nat, (f.1.length : Int) - (f.2 : Int) = (nn : Int) := ⟨f.1.length - f.2, by omega⟩
      have hn3 : f.1.length - f.2 = nn := by omega
      have hnr : nn ≤ 250000 := by omega
      unfold ptrV at hfc
      have HK := Lib.hid key
      have HFS := Lib.hid hfs
      have HFF := Lib.hid hffo
      have HCU := Lib.hid hcut'
      have HFI := Lib.hid hfi
      have HFO := Lib.hid hfo
      have HN3 := Lib.hid hn3
      have HSF := Lib.hid hself
      clear key hfs hffo hcut' hcut hfi hn3 hi hf hlv hdr hptr hself
      go_upto_region 6 with (fail)
      go_quiet (fail)
      have hbq : Below wr.heap.size wr (wr.drewN nq) := below_drewN (Below.refl _ _) nq
      by_cases hn0 : nn = 0
      · subst hn0
        have HC0 := Lib.hid ((cut_zero HFI.out HN3.out).symm.trans HCU.out)
        go_wp2
        go_roundw
        case rel => exact ⟨j + 1, fs, ks1, X1, A1, n1, c1, by omega, by go_num, hxd, hD.below hbq, hcg.trans (Chg.of_below hbq []) (fun g hg => by cases hg), hsz, hfX, hkp.below hbq (by omega), own_below hown hbq, hfk, HC0⟩
        case measure => simp [intOf]; omega
      · have e9 : ((nn : Int) == 0) = false := by rw [beq_eq_false_iff_ne]; omega
        have hkq := hkp.below hbq (by omega)
        have hnx := next_any X.foot w.heap.size w.heap.size ks1 (nn : Int) (wr.drewN nq) A1 n1 c1 hkq (Nat.le_refl _)
        have HC1 := Lib.hid ((cut_more HFI.out HN3.out hn0).symm.trans HCU.out)
        have hkr := kept_range nn (Sd.next ks1 nn).1
        have hkc := kept_cases nn (Sd.next ks1 nn).1
        generalize Sd.next ks1 (nn : Int) = nx at *
        obtain ⟨xx, ks2⟩ := nx
        simp only at hnx hkr hkc
        obtain ⟨kk, hkk⟩ : ∃ kk, kk = Sd.kept nn xx := ⟨_, rfl⟩
        rw [← hkk] at hkr hkc
        have HKK := Lib.hid hkk
        have HNX := Lib.hid hnx
        have HKC := Lib.hid hkc
        have hnp : 0 < nn := by omega
        clear hnx hkc hkk hn0
        obtain ⟨mm, hmm⟩ : ∃ mm : Nat, (f.2 : Int) + (kk : Int) = (mm : Int) := ⟨f.2 + kk, by omega⟩
        have hmm2 : mm = f.2 + kk := by omega
        have HMM := Lib.hid hmm2
        have hml : mm ≤ f.1.length := by omega
        have hmc : (mm : Int) ≤ (bc : Int) := by omega
        obtain ⟨ba, rfl⟩ : ∃ ba, bA = some ba := by
          cases bA with
          | none => have := own_none hfr; omega
          | some a => exact ⟨a, rfl⟩
        obtain ⟨gb, cu, rfl, _, hbx, hcl, _, _, htk⟩ := own_box hfr
        have HTK := Lib.hid htk
        have HCL := Lib.hid hcl
        clear htk hcl hmm2
        go_wp2_with fail
        refine HNX.out.mono ?_
        rintro e w3 ⟨rfl, hc3, A3, n3, c3, hkp3⟩
        simp only
        have hgX1 : w.heap.size ∉ X1.foot := fun hm => by have := hfX _ hm; have := hXlt _ this; omega
        have hcw3 : Chg [w.heap.size] wr w3 := (Chg.of_below hbq [w.heap.size]).trans hc3 (fun g hg => .inl hg)
        have hD3 := hD.chg hcw3 (by simpa using hgX1)
        have hcg3 : Chg X.foot w w3 := hcg.trans hcw3 (fun g hg => .inr (by rw [List.mem_singleton.1 hg]; exact Nat.le_refl _))
        have hown3 := own_chg hown hcw3 (fun g hg hm => by have := (hown.lt g hg).1; simp at hm; omega)
        have hfb3 := hfb.chg hcw3 (by simp only [List.mem_singleton]; intro e; subst e; exact hgX1 (HFF.out _ (by simp [fileFoot])))
        have hbx3 := hbx.chg hcw3 (by simp only [List.mem_singleton]; intro e; subst e; exact hgX1 (HFF.out _ (by simp [fileFoot, Value.ownBlock])))
        have e0 := hfb3.cell 0
        have e1 := hfb3.cell 1
        have z0 := hfb3.free 0
        have z1 := hfb3.free 1
        simp only [List.getElem?_cons_zero, List.getElem?_cons_succ] at e0 e1
        have hne : gb ≠ pb := by
          have := HSF.out
          simp only [Value.ownBlock, ne_eq, Option.some.injEq] at this
          exact this
        have h1 := hfb3.store 0 (.slice (some ⟨gb, 0, none⟩) mm bc)
        have h2 := h1.store 1 (.int .i64 (mm : Int))
        simp only [List.set_cons_zero, List.set_cons_succ] at h2
        obtain ⟨w5, hw5⟩ : ∃ w5, w5 = (w3.setCell ⟨pb, 0, none⟩ (.slice (some ⟨gb, 0, none⟩) mm bc)).setCell ⟨pb, 1, none⟩ (.int .i64 (mm : Int)) := ⟨_, rfl⟩
        have hcp : Chg [pb] w3 w5 := by
          rw [hw5]
          exact ((Chg.refl [pb] w3).setCell _ (.inl (by simp))).setCell _ (.inl (by simp))
        rw [← hw5] at h2
        have hbx5 := hbx3.chg hcp (by simpa using hne)
        have hrow5 := box_own (base := 0) (n := mm) (Nat.zero_le _) hbx5 HCL.out (by omega) hbm
        have hset : cu.take (mm * 1) = bts (f.1.take mm) := by
          have h3 := HTK.out
          rw [Nat.mul_one] at h3 ⊢
          rw [bts_take, ← h3, List.take_take, Nat.min_eq_left hml]
        rw [hset] at hrow5
        have htl : (f.1.take mm).length = mm := by rw [List.length_take]; omega
        have hrow6 : w5.ownsRow 0 5 1 (.slice (some ⟨gb, 0, none⟩) mm bc) (f.1.take mm).length (bts (f.1.take mm)) := by rw [htl]; exact hrow5
        have hff5 : Chg (fileFoot (pb, Value.slice (some ⟨gb, 0, none⟩) f.1.length bc)) w3 w5 := hcp.mono (fun g hg => .inl (by rw [List.mem_singleton.1 hg]; simp [fileFoot]))
        have hvv : ∀ g, (Value.slice (some ⟨gb, 0, none⟩) mm bc).ownBlock = some g → (Value.slice (some ⟨gb, 0, none⟩) f.1.length bc).ownBlock = some g := fun g hg => hg
        have hD5 := HK.out w3 w5 hD3 (.slice (some ⟨gb, 0, none⟩) mm bc) (f.1.take mm, mm) ⟨h2, hrow6⟩ hff5 hvv
        have hf5 := HFS.out (.slice (some ⟨gb, 0, none⟩) mm bc) hvv
        have hpbX := HFF.out pb (by simp [fileFoot])
        have hcg5 : Chg X.foot w w5 := hcg3.trans hcp (fun g hg => .inl (by rw [List.mem_singleton.1 hg]; exact hfX _ hpbX))
        have hkp5 := hkp3.chg hcp (Nat.le_trans (by omega) hcg3.size) (by simp only [List.mem_singleton]; intro e; exact hgX1 (by rw [e]; exact hpbX)) (fun b hb => .inr (by rw [List.mem_singleton.1 hb]; exact hfX _ hpbX))
        have hown5 := own_chg hown3 hcp (fun g hg hm => by
          have h3 := (hown3.lt g hg).1
          have h4 := hXlt _ (hfX _ hpbX)
          rw [List.mem_singleton.1 hm] at h3
          omega)
        have hfk5 : Fok S.files.length (fs.set i (f.1.take mm, mm)) := ⟨by rw [List.length_set]; exact hfk.out.1, fun x y hxy => by
          rw [List.getElem?_set] at hxy
          split at hxy
          · injection hxy with hxy
            rw [← hxy]
            simp only [List.length_take]
            omega
          · exact hfk.out.2 x y hxy⟩
        have HC5 := HC1.out
        rw [← HKK.out, ← HMM.out] at HC5
        have FIN : Hid (∀ w6, Below w5.heap.size w5 w6 → ∃ (fs : List (List UInt8 × Nat)) (ks1 : List Int) (X1 : Dw) (A1 : Option Addr) (n1 c1 : Nat), X1.d = X.d ∧ DK w6 X1 { S with files := fs } ∧ Chg X.foot w w6 ∧ w.heap.size + 1 ≤ w6.heap.size ∧ (∀ g ∈ X1.foot, g ∈ X.foot) ∧ Kp X.foot w.heap.size w6 w.heap.size ks1 A1 n1 c1 ∧ w6.ownsRow (w.heap.size + 1) 3 1 (.slice (some la) L.length lc) L.length (ncells L) ∧ Hid (Fok S.files.length fs) ∧ Hid (Sd.cutFiles (L.drop (j + 1)) fs ks1 = C)) := Lib.hid (fun w6 hb6 => ⟨fs.set i (f.1.take mm, mm), ks2, { X1 with ps := X1.ps.set i (pb, Value.slice (some ⟨gb, 0, none⟩) mm bc) }, A3, n3, c3, hxd, hD5.below hb6, hcg5.trans (Chg.of_below hb6 []) (fun g hg => by cases hg), Nat.le_trans hsz (Nat.le_trans hcw3.size (Nat.le_trans hcp.size hb6.size)), fun g hg => hfX g (hf5 g hg), hkp5.below hb6 (Nat.le_trans (by omega) (Nat.le_trans hcw3.size hcp.size)), own_below hown5 hb6, Lib.hid hfk5, Lib.hid HC5⟩)
        have hszw : w.heap.size ≤ wr.heap.size := by omega
        clear HC5 hfk5 hown5 hkp5 hcg5 hf5 hD5 hvv hff5 hrow6 htl hset hrow5 hbx5 h2 h1 hown3 hcg3 hD3 hcw3 hgX1 hfb3 hbx3 hkp3 HNX HCU HFI HN3 HK HFS HFF HTK HCL hfb hfr hown hkp hcg hD
        have HW5 := Lib.hid hw5
        clear hw5
        rcases HKC.out with hk | ⟨hk1, hk2, hk3⟩
        all_goals
          go_wp2_with fail
          have hmi : IntKind.i64.wrap (mm : Int) = (mm : Int) := IntWalk.i64_in _ (by omega)
          go_still_tail 14, (by kernel_rfl)
          change wpList _ _ _ _ _ (World.drew w3)
          go_wp2
          go_roundw
          case rel =>
            obtain ⟨fs', ks', X', A', n', c', g1, g2, g3, g4, g5, g6, g7, g8, g9⟩ := FIN.out w5.drew (below_drew (Below.refl _ _))
            rw [show w5 = _ from HW5.out] at g2 g3 g4 g6 g7
            exact ⟨j + 1, fs', ks', X', A', n', c', by omega, by go_num, g1, g2, g3, g4, g5, g6, g7, g8, g9⟩
          case measure => simp [intOf]; omega
    · obtain rfl : j = L.length := by omega
      have hcf : C = (fs, ks1) := by
        have := hcut.out
        rw [List.drop_length] at this
        exact this.symm
      have HCF := Lib.hid hcf
      clear hcf hcut
      have hTl : S.turns.length ≤ 1099511627776 := by unfold Sd.load at hload; omega
      have hFl : S.files.length ≤ 1099511627776 := by unfold Sd.load at hload; omega
      obtain ⟨tA, tc, htv, htn, htm, _⟩ := own_form hD.turns
      simp only at htv htn
      have d4 := hD.box.cell 4
      simp only [Dw.cells, List.getElem?_cons_zero, List.getElem?_cons_succ] at d4
      rw [hxd, htv] at d4
      have htg := HW.out.gturns
      have htu := HW.out.turn
      clear hown
      go_wp2_with fail
      go_loopw [79] (fun jj wr2 => ∃ (j : Nat) (m : Nm) (ks2 : List Int) (A2 : Option Addr) (n2 c2 : Nat), j ≤ S.turns.length ∧ jj = .int .i64 (j : Int) ∧ DK wr2 X1 { S with files := fs, lasted := m } ∧ Chg X.foot w wr2 ∧ w.heap.size + 1 ≤ wr2.heap.size ∧ Kp X.foot w.heap.size wr2 w.heap.size ks2 A2 n2 c2 ∧ m.length ≤ S.lasted.length + j ∧ Hid (Sd.doTurns (S.turns.drop j) m ks2 = Sd.doTurns S.turns S.lasted ks1)) (fun jj _ => S.turns.length - (intOf jj).toNat)
      case atStart => exact ⟨0, S.lasted, ks1, A1, n1, c1, Nat.zero_le _, rfl, hD, hcg, hsz, hkp, by omega, Lib.hid (by rw [List.drop_zero])⟩
      case round =>
        obtain ⟨j, m, ks2, A2, n2, c2, hj2, rfl, hD2, hcg2, hsz2, hkp2, hml2, hdt⟩ := hrel
        clear hD hcg hsz hkp d4
        have hgX1 : w.heap.size ∉ X1.foot := fun hm => by have := hfX _ hm; have := hXlt _ this; omega
        by_cases hlt2 : j < S.turns.length
        · have hrt := hD2.turns
          rw [htv] at hrt
          obtain ⟨ta, htl, hta, htb, q0, q1, q2, q3⟩ := (Row.own hrt).turn hlt2
          subst hta
          obtain ⟨t, ht⟩ : ∃ t, t = S.turns[j] := ⟨_, rfl⟩
          rw [← ht] at q0 q1 q2 q3
          have hdr : S.turns.drop j = t :: S.turns.drop (j + 1) := by rw [ht]; exact List.drop_eq_getElem_cons hlt2
          have hdt' := hdt.out
          rw [hdr, turns_step] at hdt'
          have hg := htg t (by rw [ht]; exact List.getElem_mem _)
          have hu := htu t (by rw [ht]; exact List.getElem_mem _)
          have hbt0 := HBS.out t (by rw [ht]; exact List.getElem_mem _)
          have hbb := (Below.refl wr.heap.size wr).alloc (Nat.le_refl _) (.cells (turnCells t).toArray 101)
          have hbt := BoxO.new wr (turnCells t).toArray 101
          have hkp3 := hkp2.below hbb (by omega)
          have hnx := next_any X.foot w.heap.size w.heap.size ks2 0 _ A2 n2 c2 hkp3 (Nat.le_refl _)
          have hD3 := hD2.below hbb
          generalize Sd.next ks2 0 = nx at *
          obtain ⟨xx, ks3⟩ := nx
          simp only at hnx hdt'
          have hom := odd_mask xx
          have hsb : wr.heap.size < (wr.alloc (.cells (turnCells t).toArray 101)).heap.size := by simp
          have HNX := Lib.hid hnx
          have HDT := Lib.hid hdt'
          have hcw : Chg X.foot w (wr.alloc (.cells (turnCells t).toArray 101)) := hcg2.trans (Chg.of_below hbb []) (fun g hg => by cases hg)
          have HSZ : Hid (w.heap.size + 1 ≤ (wr.alloc (.cells (turnCells t).toArray 101)).heap.size) := Lib.hid (by simp; omega)
          clear hnx hdt' hdt hdr ht hrt hkp2 hkp3 hD2 hbb hcg2
          unfold turnCells at *
          have hwne : w.heap.size ≠ wr.heap.size := by omega
          generalize hVe : wr.alloc (.cells _ 101) = V at *
          obtain ⟨tb, htbE⟩ : ∃ tb, tb = wr.heap.size := ⟨_, rfl⟩
          go_wp2_with fail
          refine HNX.out.mono ?_
          rintro e w3 ⟨rfl, hc3, A3, n3, c3, hkp4⟩
          have hD4 := hD3.chg hc3 (by simpa using hgX1)
          have hcw4 : Chg X.foot w w3 := hcw.trans hc3 (fun g hg => .inr (by rw [List.mem_singleton.1 hg]; exact Nat.le_refl _))
          have hbt4 := hbt.chg hc3 (by simpa using hwne.symm)
          have hsz4 := Nat.le_trans HSZ.out hc3.size
          by_cases hod : xx % 2 = 0
          · rw [hod] at hom
            rw [if_pos hod] at HDT
            have c0 := hbt4.cell 0
            have c1' := hbt4.cell 1
            have c2' := hbt4.cell 2
            have c3' := hbt4.cell 3
            have d3 := hD4.box.cell 3
            simp only [Dw.cells, List.getElem?_cons_zero, List.getElem?_cons_succ] at c0 c1' c2' c3' d3
            rw [hxd] at d3
            have hdo := do_any t.kind t.file t.a t.b (by have := named_len hg.1; unfold maxLen; omega) (by have := hbt0; unfold maxLen; omega) (by omega) X1.lb m.length m w3.drew hD4.lasted.drew (by unfold maxLen; omega) hg.2.2
            have HDO := Lib.hid hdo
            clear hdo hD3 hbt hVe
            go_wp2_with fail
            go_still_tail 5, (by kernel_rfl)
            change wpList _ _ _ _ _ (World.drew w3)
            go_wp2_with fail
            simp only [turnV] at HDO
            refine HDO.out.mono ?_
            rintro e w5 ⟨rfl, hn5, hc5⟩
            have hc5' : Chg [X1.lb] w3 w5 := (Chg.refl [X1.lb] w3).drew.trans hc5 (fun g hg => .inl hg)
            have hD5 := hD4.setLasted hn5 hc5'
            have hlbX := hfX X1.lb (mem_foot.2 (.inr (.inr (.inl rfl))))
            have hcw5 : Chg X.foot w w5 := hcw4.trans hc5' (fun g hg => .inl (by rw [List.mem_singleton.1 hg]; exact hlbX))
            have hkp5 := hkp4.chg hc5' (by omega) (by simp only [List.mem_singleton]; intro e; have := hXlt _ hlbX; omega) (fun b hb => .inr (by rw [List.mem_singleton.1 hb]; exact hlbX))
            have hgl := go_length (m := m) (names_apart hD4.lasted) t
            have hsz5 := Nat.le_trans hsz4 hc5'.size
            have hml5 : (Tn.go ⟨t.kind, t.file, t.a, t.b⟩ m).length ≤ S.lasted.length + (j + 1) := by
              have : Tn.go ⟨t.kind, t.file, t.a, t.b⟩ m = t.go m := rfl
              rw [this]
              split at hgl <;> omega
            clear hgl hn5 hc5 hc5' hD4 hcw4 hkp4 hbt4 HDO
            go_wp2
            go_roundw
            case rel => exact ⟨j + 1, _, ks3, A3, n3, c3, by omega, by go_num, hD5, hcw5, hsz5, hkp5, hml5, HDT⟩
            case measure => simp [intOf]; omega
          · have hod1 : xx % 2 = 1 := by omega
            rw [hod1] at hom
            rw [if_neg hod] at HDT
            clear hD3 hbt hVe
            go_wp2
            go_roundw
            case rel => exact ⟨j + 1, m, ks3, A3, n3, c3, by omega, by go_num, hD4, hcw4, hsz4, hkp4, by omega, HDT⟩
            case measure => simp [intOf]; omega
        · obtain rfl : j = S.turns.length := by omega
          have hmf : Sd.doTurns S.turns S.lasted ks1 = m := by
            have := hdt.out
            rw [List.drop_length] at this
            exact this.symm
          have hbx2 := hD2.box
          rw [hxd] at hbx2
          have d2 := hbx2.cell 2
          have d3 := hbx2.cell 3
          have f2 := hbx2.free 2
          simp only [Dw.cells, List.getElem?_cons_zero, List.getElem?_cons_succ] at d2 d3
          have hst := hbx2.store 2 (.map (some X1.lb))
          have hcs := chg_set wr ⟨X.d, 2, none⟩ (.map (some X1.lb))
          simp only [Dw.cells, List.set_cons_zero, List.set_cons_succ] at hst
          have hdlb := hD2.apart.d_lb
          rw [hxd] at hdlb
          have hlast := map_chg hD2.lasted hcs (by simpa using hdlb.symm)
          obtain ⟨V, hVe⟩ : ∃ V, V = wr.setCell ⟨X.d, 2, none⟩ (.map (some X1.lb)) := ⟨_, rfl⟩
          rw [← hVe] at hst hcs hlast
          have hcl := AnyW.maps_Clone_owns Tryz.clone60 9 (plainElem (H := Unit) Tryz.prog 3) X1.lb _ _ V hlast
          have c2V := hst.cell 2
          have c3V := hst.cell 3
          have f3V := hst.free 3
          simp only [List.getElem?_cons_zero, List.getElem?_cons_succ] at c2V c3V
          rw [hVe] at hcl c2V c3V f3V
          have HCL := Lib.hid hcl
          have HVE := Lib.hid hVe
          clear hVe hcl
          go_wp2_with fail
          refine HCL.out.mono ?_
          rintro e w6 ⟨rfl, hn6, hl6, hb6⟩
          have hVE := HVE.out
          rw [← hVE] at hn6 hb6 ⊢
          clear hVE
          have hst6 := hst.below hb6
          have hcs6 : Chg [X.d] wr w6 := hcs.trans (Chg.of_below hb6 []) (fun g hg => by cases hg)
          have e3 := hst6.free 3
          have e4 := hst6.free 4
          have e6 := hst6.free 6
          have e7 := hst6.free 7
          have e8 := hst6.free 8
          have v3 := hst6.cell 3
          have v4 := hst6.cell 4
          have v6 := hst6.cell 6
          have v7 := hst6.cell 7
          have v8 := hst6.cell 8
          simp only [List.getElem?_cons_zero, List.getElem?_cons_succ] at v3 v4 v6 v7 v8
          have hfin := ((((hst6.store 3 (.map (some V.heap.size))).store 4 (.slice none 0 0)).store 6 (.bool false)).store 7 (.int .i64 0)).store 8 (.int .i64 0)
          simp only [List.set_cons_zero, List.set_cons_succ] at hfin
          clear c2V c3V f3V d2 d3 f2
          have hcs7 : Chg [X.d] w6 (((((w6.setCell ⟨X.d, 3, none⟩ (.map (some V.heap.size))).setCell ⟨X.d, 4, none⟩ (.slice none 0 0)).setCell ⟨X.d, 6, none⟩ (.bool false)).setCell ⟨X.d, 7, none⟩ (.int .i64 0)).setCell ⟨X.d, 8, none⟩ (.int .i64 0)) := (((((Chg.refl [X.d] w6).setCell _ (.inl (by simp))).setCell _ (.inl (by simp))).setCell _ (.inl (by simp))).setCell _ (.inl (by simp))).setCell _ (.inl (by simp))
          obtain ⟨w7, hw7⟩ : ∃ w7, w7 = (((((w6.setCell ⟨X.d, 3, none⟩ (.map (some V.heap.size))).setCell ⟨X.d, 4, none⟩ (.slice none 0 0)).setCell ⟨X.d, 6, none⟩ (.bool false)).setCell ⟨X.d, 7, none⟩ (.int .i64 0)).setCell ⟨X.d, 8, none⟩ (.int .i64 0)) := ⟨_, rfl⟩
          rw [← hw7] at hfin hcs7
          have hVsz : wr.heap.size ≤ V.heap.size := hcs.size
          have hdlt := hD2.box.lt
          rw [hxd] at hdlt
          have hdk := DK.remap (b1 := X1.lb) (b2 := V.heap.size) (S' := { S with files := fs, names := m, lasted := m, turns := [], dead := false, stop := 0, fail := 0 }) hD2 (by rw [hxd]; exact hcs6.trans hcs7 (fun g hg => .inl hg)) (map_chg hl6 hcs7 (by simpa using hdlb.symm)) (map_chg hn6 hcs7 (by simp; omega)) (.inr (.inl rfl)) hVsz (by have := hD2.lasted.lt; omega) (by rw [hxd]; exact hfin) rfl rfl
          have hup : Upd X w w7 (S.crash ks) := by
            have e : S.crash ks = { S with files := fs, names := m, lasted := m, turns := [], dead := false, stop := 0, fail := 0 } := by rw [HCR.out, HCF.out, hmf]
            rw [e]
            refine ⟨{ X1 with nb := X1.lb, lb := V.heap.size, tv := .slice none 0 0 }, hxd, hdk, hcg2.trans (hcs6.trans hcs7 (fun g hg => .inl hg)) (fun g hg => .inl (by rw [List.mem_singleton.1 hg]; exact mem_foot.2 (.inl rfl))), fun g hg => ?_⟩
            rcases mem_foot.1 hg with h5 | h5 | h5 | h5 | h5 | h5
            · exact .inl (hfX g (mem_foot.2 (.inl h5)))
            · exact .inl (hfX g (mem_foot.2 (.inr (.inr (.inl h5)))))
            · right
              have h6 : g = V.heap.size := h5
              omega
            · exact .inl (hfX g (mem_foot.2 (.inr (.inr (.inr (.inl h5))))))
            · cases h5
            · exact .inl (hfX g (mem_foot.2 (.inr (.inr (.inr (.inr (.inr h5))))))) 
          have HU := Lib.hid hup
          have HW7 := Lib.hid hw7
          clear hup hdk hfin hcs7 hw7 hcs6 hst6 hb6 hl6 hn6 hlast hcs hst hbx2 hD2 hmf hdt hcg2 hkp2
          go_wp2
          refine bodyPost_end (v := .tuple #[]) (by simp [results, go_sem]) rfl ⟨rfl, ?_⟩
          have := HU.out
          rw [show w7 = _ from HW7.out] at this
          exact this
end Go.Proofs.YthepokgkfaocmaaGreatDoor

/-
  Crash in the laws' words; a rewrite on a dead disk.
-/
namespace Go.Proofs.YthepokgkfaocmaaGreatDoor
open Go Go.RowKit Go.Shelf
variable {P : Sl} {W0 w w1 : World} {X : Dw} {S : Sd} {m : Nat} {M : Gs}
theorem GAt.crash (h : GAt P W0 w X S m M) (hi : S.co.In) (hm : S.co.most ≤ 64) (hl : S.load ≤ 1099511627776) {A : Option Addr} {n c : Nat} {ks : List Int} (hr : Row W0.heap.size W0 A n 1 (icells ks)) (hn : n ≤ c) (hc : c ≤ maxLen) :
    Calls Tryz.prog 34 #[.pointer (some ⟨X.d, 0, none⟩), .slice A n c] w fun e w' => e = .returned (.tuple #[]) ∧ ∃ X', X'.d = X.d ∧ GAt P W0 w' X' (S.crash ks) m M := by
  have hlm : S.lasted.length ≤ 1099511627776 := by
    have : S.lasted.length ≤ S.co.most := by unfold Co.most; exact Nat.le_add_right _ _
    omega
  refine (crash_any X S w A n c ks h.dm.wf hl h.dm.dk ((hr.below h.bel).up h.bel.size) hn hc (fun j hj a ha hx => by
    have h1 := row_lt hr hj ha
    have h2 := h.low _ hx
    omega) (fun t ht => Nat.le_trans (hi.tb t ht) (by omega)) hlm).mono fun e w' ⟨h1, h2⟩ => ⟨h1, ?_⟩
  obtain ⟨X2, k⟩ := h.acc0.step (h.dm.upd (Sd.crash_wf h.dm.wf hi hm ks) h2)
  exact ⟨X2, k.e, h.acc k⟩
namespace Gw
open Mn
open Mw (man man_named)
theorem rewriteM_dead {d : Sd} (hd : d.dead = true) (hb : M.broken = false) : ∃ d1, rewriteM d M = (d1, M, 50) ∧ d1.co = d.co ∧ d1.dead = true := by
  have hl : d.list = [] := by unfold Sd.list; rw [if_pos hd]
  obtain ⟨e1, e2, e3⟩ := write_dead hd (man_named (n := 1) (Nat.le_refl 1) (by decide)) M.v.whole.rec_
  have hdd : (d.write (man 1) M.v.whole.rec_).1.dead = true := by
    have := Ct.dead_reach (a := d.ct) hd e2.1
    have h2 := congrArg Ct.dead this
    exact h2.trans hd
  refine ⟨(d.write (man 1) M.v.whole.rec_).1, ?_, e3, hdd⟩
  unfold rewriteM
  rw [if_neg (by simp [hb]), hl]
  have e4 : greatest [] kMan = 0 := rfl
  rw [e4, if_neg (by decide)]
  have e5 : name kMan (0 + 1) = man 1 := rfl
  rw [e5]
  unfold rewrite
  rw [if_pos (by rw [e1]; decide), e1]
end Gw
theorem CI.dead_rewrite {vs : List Vw} {i n G a b : Nat} {d : Sd} {ts : List Ed} (h : CI vs i d M n G ts a b) (hd : d.dead = true) (hw : d.Wf) (ha : a ≤ 45) (hb : b ≤ 240000) : ∃ d1, Gw.rewriteM d M = (d1, M, 50) ∧ d1.dead = true ∧ d1.load ≤ 10000 ∧ SV d1 (May vs i) 0 := by
  obtain ⟨d1, e1, e2, e3⟩ := Gw.rewriteM_dead hd h.ms.broken
  have hl := Gw.rewriteM_load hw M
  rw [e1] at hl
  have hs := h.sv (by omega) (by omega)
  have h0 := h.load
  have hq : d1.quota = d.quota := congrArg Co.quota e2
  exact ⟨d1, e1, e3, by simp only at hl; omega, by rw [e2]; exact hs.in_, by rw [e2]; exact hs.lead, by rw [e2]; exact hs.under, by rw [e2]; exact hs.most, by rw [e2]; exact hs.total, hq.trans hs.quota, by simp only at hl; omega⟩
end Go.Proofs.YthepokgkfaocmaaGreatDoor

/-
  ManSaves in plain Lean: Saves, rewrites, losses of power and Opens on a disk that nothing stops.
-/
namespace Go.Proofs.YthepokgkfaocmaaGreatDoor
open Go Go.RowKit
open Co
open Mw (kCur headB)
structure SI (v : Vw) (i a b : Nat) (d : Sd) (M : Gs) (n G : Nat) (ts : List Ed) : Prop where
  ms : MS d M n G ts
  hale : d.ct.hale
  view : M.v = v
  g : G ≤ 1 + a
  few : ts.length ≤ 1 + i
  most : d.co.most ≤ 2 + a
  total : d.co.total ≤ 2300 + b
  quota : d.quota = 1048576
  load : d.load ≤ 100 + 100 * a
variable {v : Vw} {i a b n G : Nat} {d : Sd} {M : Gs} {ts : List Ed}
theorem SI.mono {i' a' b' : Nat} (h : SI v i a b d M n G ts) (hi : i ≤ i') (ha : a ≤ a') (hb : b ≤ b') : SI v i' a' b' d M n G ts :=
  ⟨h.ms, h.hale, h.view, by have := h.g; omega, by have := h.few; omega, by have := h.most; omega, by have := h.total; omega, h.quota, by have := h.load; omega⟩
theorem SI.start : ∃ S1, Gw.rewrite (Sd.new 1048576) ⟨[], v1g, 0, false⟩ (Mw.man 1) = (S1, ⟨Mw.man 1, v1g, 1, false⟩, 0) ∧ SI v1g 0 0 0 S1 ⟨Mw.man 1, v1g, 1, false⟩ 1 1 [v1g.whole] := by
  obtain ⟨S1, h1, h2, h3, h4, h5, h6, h7⟩ := MS.new
  exact ⟨S1, h1, h2, h3, rfl, Nat.le_refl _, by simp, h4, h5, h6, by omega⟩
theorem SI.bad (h : SI v i a b d M n G ts) {e : Ed} (he : e.may = false ∨ v.app e = none) : Gw.save d M e = (d, M, 1) := by
  unfold Gw.save
  rw [if_neg (by simp [h.ms.broken])]
  by_cases h1 : e.may = false
  · rw [if_pos h1]
  · rw [if_neg h1, h.view]
    rcases he with he | he
    · exact absurd he h1
    · rw [he]
theorem SI.saved (h : SI v i a b d M n G ts) {e : Ed} {u : Vw} (he : e.may = true) (hap : v.app e = some u) (hi : i ≤ 46) (ha : a ≤ 50) (hb : b ≤ 900000) :
    ∃ d1 M1, Gw.save d M e = (d1, M1, 0) ∧ SI u (i + 1) a (b + 2012) d1 M1 n G (ts ++ [e]) := by
  have hv := h.view
  rw [← hv] at hap
  have hq := h.quota
  have ht := h.total
  have hg := h.g
  have hf := h.few
  obtain ⟨p1, p2⟩ := h.ms.save (by omega) he hap (by omega) (by omega)
  obtain ⟨h0, hc⟩ := p1.ends.hale h.hale
  have hr := Ed.rec_len he
  have hm := p2 h0
  have hkm := p1.keeps.most
  have hkt := p1.keeps.total
  have hld := Gw.save_load d M e
  have hll := h.load
  have hme := h.most
  have hkq : (Gw.save d M e).1.quota = 1048576 := Eq.trans p1.keeps.quota hq
  rcases p1.out with ⟨_, b1, _⟩ | ⟨b1, _⟩ | ⟨b1, _⟩
  · exact ⟨(Gw.save d M e).1, { M with count := M.count + 1, v := u }, Prod.ext rfl (Prod.ext b1 h0), hm, by rw [hc]; exact h.hale, rfl, hg, by rw [List.length_append]; simp; omega, (by clear hkq hkt; omega), Nat.le_trans hkt (by clear hkq hkt; omega), hkq, (by clear hkq hkt; omega)⟩
  · exact absurd h0 b1
  · exact absurd h0 b1
theorem SI.rewrite (hw : d.Wf) (h : SI v i a b d M n G ts) (ha : a ≤ 50) (hb : b ≤ 900000) : ∃ d1 M1 n1 G1, Gw.rewriteM d M = (d1, M1, 0) ∧ SI v i (a + 1) (b + 2300) d1 M1 n1 G1 [v.whole] := by
  have hv := h.view
  have hq := h.quota
  have ht := h.total
  have hg := h.g
  have hme := h.most
  have nG := h.ms.nG
  obtain ⟨k, k1, k2, L⟩ := Gw.rewriteM_out (d := d) h.ms.broken h.ms.ok h.ms.n1 (by omega) h.ms.under h.ms.in_ (by omega) (by omega) h.ms.cur h.ms.man h.ms.nG
  obtain ⟨h0, hc⟩ := L.ends.hale h.hale
  have hld := Gw.rewriteM_load hw M
  have hll := h.load
  have hkt := L.keeps.total
  have hkq : (Gw.rewriteM d M).1.quota = 1048576 := Eq.trans L.keeps.quota hq
  have hu1 := h.ms.under.keeps L.keeps (Gw.numOf_K k1 (by omega) k2) (Nat.le_succ G)
  rcases L.out with ⟨b1, b2, b3, b4, b5⟩ | ⟨b1, _⟩ | ⟨b1, _⟩
  · refine ⟨(Gw.rewriteM d M).1, { M with name := Mw.man k, count := 1 }, k, G + 1, Prod.ext rfl (Prod.ext b2 b1), ?_⟩
    rw [← hv]
    exact ⟨MS.made L.keeps.in_ h.ms.broken h.ms.ok k1 k2 b3 b4 hu1, by rw [hc]; exact h.hale, rfl, by omega, by simp, (by clear hkq hkt; omega), Nat.le_trans hkt (by clear hkq hkt; omega), hkq, (by clear hkq hkt; omega)⟩
  · exact absurd h0 b1
  · exact absurd h0 b1
theorem SI.crash (hw : d.Wf) (h : SI v i a b d M n G ts) (keep : List Int) : SI v i a b (d.crash keep) M n G ts := by
  have hc := Sd.crash_cr hw h.ms.in_
  exact ⟨h.ms.crash hw keep, Sd.crash_hale d keep, h.view, h.g, h.few, Nat.le_trans ((hc keep).most_le h.ms.in_).1 h.most, Nat.le_trans (hc keep).total_le h.total, h.quota, Nat.le_trans (Sd.crash_load hw keep) h.load⟩
theorem SI.open_ (hw : d.Wf) (h : SI v i a b d M n G ts) (ha : a ≤ 50) (hb : b ≤ 900000) (hi : i ≤ 46) : ∃ d1 M1 n1 G1 ts1 a1, Gw.opens d = (some M1, d1, 0) ∧ SI v i a1 (b + 2300) d1 M1 n1 G1 ts1 ∧ a1 ≤ a + 1 ∧ (ts.length ≤ 30 → a1 = a) := by
  have hg := h.g
  have nG := h.ms.nG
  have hl := look_now h.hale.1 h.ms.n1 (by omega) (Held.now h.ms.cur) (Held.now h.ms.man) h.ms.views
  have hv := h.view
  unfold Gw.opens
  rw [hl]
  simp only [Nat.lt_irrefl, decide_false, Bool.false_or]
  have hM : (⟨Mw.man n, M.v, ts.length, false⟩ : Gs) = M := by
    have h1 := h.ms.nm
    have h2 := h.ms.count
    have h3 := h.ms.broken
    cases M
    simp only at h1 h2 h3
    subst h1 h2 h3
    rfl
  by_cases h30 : 30 < ts.length
  · rw [if_pos (by simpa using h30), hM]
    obtain ⟨d1, M1, n1, G1, e1, h1⟩ := h.rewrite hw ha hb
    rw [e1, if_neg (by simp)]
    exact ⟨d1, M1, n1, G1, _, a + 1, rfl, h1, Nat.le_refl _, fun h => by omega⟩
  · rw [if_neg (by simpa using h30), hM]
    exact ⟨d, M, n, G, ts, a, rfl, h.mono (Nat.le_refl _) (Nat.le_refl _) (by omega), by omega, fun _ => rfl⟩
end Go.Proofs.YthepokgkfaocmaaGreatDoor
