/- Texts CrB, CrashM in one. No conditions. -/
import Derived.Test.YthepokgkfaocmaaGreatDoorBunAT
import Derived.Deep.QuietTactic
import Derived.BigQuiet
import Derived.StillTailTactics
import Derived.IntWalk
import Derived.Test.YthepokgkfaocmaaGreatDoorBunAR
import Derived.Test.YthepokgkfaocmaaGreatDoorBunAF
import Derived.Test.YthepokgkfaocmaaGreatDoorBunAG
import Derived.Test.YthepokgkfaocmaaGreatDoorBunAS

/-
  The walk of a disk's Crash.
-/
namespace Go.Proofs.YthepokgkfaocmaaGreatDoor
open Go Go.RowKit Go.Maps
theorem odd_mask (a : Int) : bits .and .i64 a 1 = a % 2 := by
  have e : bits .and .i64 a 1 = IntKind.i64.wrap ((BitVec.ofInt 64 a &&& BitVec.ofInt 64 1).toNat : Int) := rfl
  have h1 : (BitVec.ofInt 64 (1 : Int)).toNat = 1 := by decide
  rw [e, BitVec.toNat_and, h1, Nat.and_one_is_mod, BitVec.toNat_ofInt, IntKind.wrap_i64]
  omega
theorem turns_step {t : Tn} {r : List Tn} {m : Nm} {ks : List Int} : Sd.doTurns (t :: r) m ks = Sd.doTurns r (if (Sd.next ks 0).1 % 2 = 0 then t.go m else m) (Sd.next ks 0).2 := rfl
theorem DK.setLasted {w w' : World} {X : Dw} {S : Sd} {n : Nat} {M : Nm} (h : DK w X S) (hn : NamesAt w' X.lb n M) (c : Chg [X.lb] w w') : DK w' X { S with lasted := M } := by
  have a := h.apart
  exact ⟨h.box.chg c (by simpa using a.d_lb), map_chg h.names c (by simpa using a.nb_lb), names_tight hn, own_chg h.files c (fun g e => by simpa using (a.fv g e).2.2.1), fun i hi h2 => (h.file i hi h2).chg c (fun g e => by simpa using (a.ps _ (List.getElem_mem h2) g e).2.2.1),
    own_chg h.turns c (fun g e => by simpa using (a.tv g e).2.2.1), h.nodup⟩
theorem names_apart {w : World} {b n : Nat} {M : Nm} (h : NamesAt w b n M) : Nm.Apart M := by
  obtain ⟨es, hes0, hpw, _⟩ := h.entries law_s
  have hes : es = M.map Nm.lit1 := by
    unfold Nm.enc at hes0
    injection hes0 with hes0
    exact hes0.symm
  rw [hes, List.pairwise_map] at hpw
  exact hpw.imp (fun {a b} hab e => hab (by simp only [Nm.lit1, e]))
/-- Files as they may be. -/
def Fok (n : Nat) (fs : List (List UInt8 × Nat)) : Prop := fs.length = n ∧ ∀ (i : Nat) (f : List UInt8 × Nat), fs[i]? = some f → f.2 ≤ f.1.length ∧ f.1.length ≤ 250000
theorem kept_range (n : Nat) (x : Int) : Sd.kept n x ≤ n := by
  unfold Sd.kept
  have h1 := Int.emod_nonneg x (show ((n : Int) + 1) ≠ 0 by omega)
  have h2 := Int.emod_lt_of_pos x (show (0 : Int) < (n : Int) + 1 by omega)
  omega
theorem kept_cases (n : Nat) (x : Int) : (x.tmod ((n : Int) + 1) = (Sd.kept n x : Int)) ∨ (x.tmod ((n : Int) + 1) < 0 ∧ -(n : Int) ≤ x.tmod ((n : Int) + 1) ∧ x.tmod ((n : Int) + 1) + ((n : Int) + 1) = (Sd.kept n x : Int)) := by
  unfold Sd.kept
  have h1 := Int.emod_nonneg x (show ((n : Int) + 1) ≠ 0 by omega)
  have h2 := Int.emod_lt_of_pos x (show (0 : Int) < (n : Int) + 1 by omega)
  rw [Int.toNat_of_nonneg h1]
  rcases Int.lt_or_le x 0 with hx | hx
  · have e0 := Int.mul_tdiv_add_tmod x ((n : Int) + 1)
    have e1 : x % ((n : Int) + 1) = (x.tmod ((n : Int) + 1)) % ((n : Int) + 1) := by
      conv => lhs; rw [← e0, Int.add_comm, Int.add_mul_emod_self_left]
    have e2 : x.tmod ((n : Int) + 1) = -((-x).tmod ((n : Int) + 1)) := by rw [Int.neg_tmod, Int.neg_neg]
    have e3 := Int.tmod_nonneg ((n : Int) + 1) (show 0 ≤ -x by omega)
    have e4 := Int.tmod_lt_of_pos (-x) (show (0 : Int) < (n : Int) + 1 by omega)
    generalize x.tmod ((n : Int) + 1) = t at *
    generalize (-x).tmod ((n : Int) + 1) = u at *
    rcases Int.lt_or_le t 0 with ht | ht
    · right
      refine ⟨ht, by omega, ?_⟩
      have e5 : (t + ((n : Int) + 1)) % ((n : Int) + 1) = t % ((n : Int) + 1) := by simp
      rw [Int.emod_eq_of_lt (by omega) (by omega)] at e5
      rw [e1, ← e5]
    · left
      rw [e1, Int.emod_eq_of_lt ht (by omega)]
  · left
    exact Int.tmod_eq_emod_of_nonneg hx
theorem cut_zero {i : Nat} {r : List Nat} {fs : List (List UInt8 × Nat)} {ks : List Int} {f : List UInt8 × Nat} (hf : fs[i]? = some f) (h : f.1.length - f.2 = 0) : Sd.cutFiles (i :: r) fs ks = Sd.cutFiles r fs ks := by
  have hg : fs.getD i ([], 0) = f := by rw [List.getD_eq_getElem?_getD, hf]; rfl
  rw [Sd.cutFiles, hg, if_pos h]
theorem cut_more {i n : Nat} {r : List Nat} {fs : List (List UInt8 × Nat)} {ks : List Int} {f : List UInt8 × Nat} (hf : fs[i]? = some f) (h : f.1.length - f.2 = n) (hn : n ≠ 0) : Sd.cutFiles (i :: r) fs ks = Sd.cutFiles r (fs.set i (f.1.take (f.2 + Sd.kept n (Sd.next ks n).1), f.2 + Sd.kept n (Sd.next ks n).1)) (Sd.next ks n).2 := by
  have hg : fs.getD i ([], 0) = f := by rw [List.getD_eq_getElem?_getD, hf]; rfl
  have hk := kept_range n (Sd.next ks n).1
  rw [Sd.cutFiles, hg, if_neg (by omega), h]
  simp only [List.length_take]
  rw [Nat.min_eq_left (by omega)]
set_option maxRecDepth 100000 in
set_option maxHeartbeats 4000000 in
theorem crash_any (X : Dw) (S : Sd) (w : World) (A : Option Addr) (n c : Nat) (ks : List Int) (hw : S.Wf) (hload : S.load ≤ 1099511627776) (h : DK w X S) (hr : Row w.heap.size w A n 1 (icells ks)) (hn : n ≤ c) (hc : c ≤ maxLen) (hA : ∀ j, j < (icells ks).length → ∀ a, A = some a → a.block ∉ X.foot) (hbs : ∀ t ∈ S.turns, t.b.length ≤ 1000) (hlm : S.lasted.length ≤ 1099511627776) :
    Calls Tryz.prog 34 #[.pointer (some ⟨X.d, 0, none⟩), .slice A n c] w fun e w' => e = .returned (.tuple #[]) ∧ Upd X w w' (S.crash ks) := by
  have hb0 := (Below.refl w.heap.size w).alloc (Nat.le_refl _) (.cells #[.slice A n c] 37)
  have hbx0 := BoxO.new w #[.slice A n c] 37
  have hD0 := h.below hb0
  have hled := led_any X S _ hD0 hload
  have hk0 : Kp X.foot w.heap.size (w.alloc (.cells #[.slice A n c] 37)) w.heap.size ks A n c := ⟨hbx0, hr.below hb0, hn, hc, hA⟩
  have hgX : ∀ (X1 : Dw), (∀ g ∈ X1.foot, g ∈ X.foot ∨ w.heap.size + 1 ≤ g) → w.heap.size ∉ X1.foot := fun X1 hf hm => by
    rcases hf _ hm with h1 | h1
    · have := h.lt _ h1; omega
    · omega
  have hLi : ∀ i ∈ S.led, i < S.files.length := fun i hi => by
    unfold Sd.led at hi
    exact List.mem_range.1 (List.mem_filter.1 hi).1
  obtain ⟨L, hL⟩ : ∃ L, L = S.led := ⟨_, rfl⟩
  rw [← hL] at hled hLi
  obtain ⟨C, hC⟩ : ∃ C, C = Sd.cutFiles L S.files ks := ⟨_, rfl⟩
  have hcr : S.crash ks = { S with files := C.1, names := Sd.doTurns S.turns S.lasted C.2, lasted := Sd.doTurns S.turns S.lasted C.2, turns := [], dead := false, stop := 0, fail := 0 } := by rw [hC, hL]; rfl
  have hfok : Fok S.files.length S.files := ⟨rfl, fun i f hf => by
    obtain ⟨hi, e⟩ := List.getElem?_eq_some_iff.1 hf
    rw [← e]
    exact hw.file i hi⟩
  have HCR := Lib.hid hcr
  have HC := Lib.hid hC
  have HLI := Lib.hid hLi
  have HGX := Lib.hid hgX
  have HFOK := Lib.hid hfok
  have HLL : Hid (L.length ≤ 1099511627776) := Lib.hid (by
    rw [hL]
    unfold Sd.led
    have := List.length_filter_le S.isLed (List.range S.files.length)
    rw [List.length_range] at this
    unfold Sd.load at hload
    omega)
  have hsz0 : (w.alloc (.cells #[.slice A n c] 37)).heap.size = w.heap.size + 1 := by simp
  have HW := Lib.hid hw
  have HBS := Lib.hid hbs
  clear hbs
  have hlt0 := h.box.lt
  have hXlt := h.lt
  clear hcr hC hL hLi hgX hbx0 hfok hr hA h hw
  generalize hW0 : w.alloc (.cells #[.slice A n c] 37) = W0 at *
  go_enter Tryz.func34, Tryz.ntmps34
  go_wp2_with fail
  refine hled.mono ?_
  rintro e w1 ⟨lA, lc, rfl, hllc, hlcm, hown1, hb1⟩
  have hD1 := hD0.below hb1
  have hk1 := hk0.below hb1 (by rw [hsz0]; omega)
  have hb01 : Below w.heap.size w w1 := hb0.trans (hb1.mono hb0.size)
  have hown1' : w1.ownsRow (w.heap.size + 1) 3 1 (.slice lA L.length lc) L.length (ncells L) := by rw [← hsz0]; exact hown1
  have hsz1 : w.heap.size + 1 ≤ w1.heap.size := by rw [← hsz0]; exact hb1.size
  have hcg1 : Chg X.foot w w1 := Chg.of_below hb01 X.foot
  have hL6 : L.length ≤ 1099511627776 := by have := HLL.out; omega
  clear hled hD0 hk0 hb1 hown1 hb0 hsz0
  go_wp2_with fail
  go_loopw [16] (fun jj wr => ∃ (j : Nat) (fs : List (List UInt8 × Nat)) (ks1 : List Int) (X1 : Dw) (A1 : Option Addr) (n1 c1 : Nat), j ≤ L.length ∧ jj = .int .i64 (j : Int) ∧ X1.d = X.d ∧ DK wr X1 { S with files := fs } ∧ Chg X.foot w wr ∧ w.heap.size + 1 ≤ wr.heap.size ∧ (∀ g ∈ X1.foot, g ∈ X.foot) ∧ Kp X.foot w.heap.size wr w.heap.size ks1 A1 n1 c1 ∧ wr.ownsRow (w.heap.size + 1) 3 1 (.slice lA L.length lc) L.length (ncells L) ∧ Hid (Fok S.files.length fs) ∧ Hid (Sd.cutFiles (L.drop j) fs ks1 = C)) (fun jj _ => L.length - (intOf jj).toNat)
  case atStart => exact ⟨0, S.files, ks, X, A, n, c, Nat.zero_le _, rfl, rfl, hD1, hcg1, hsz1, fun _ h => h, hk1, hown1', HFOK, Lib.hid (by rw [List.drop_zero]; exact HC.out.symm)⟩
  case round =>
    obtain ⟨j, fs, ks1, X1, A1, n1, c1, hj, rfl, hxd, hD, hcg, hsz, hfX, hkp, hown, hfk, hcut⟩ := hrel
    clear hD1 hk1 hown1' hcg1 hsz1 hb01
    by_cases hlt : j < L.length
    · obtain ⟨la, v, hla, hlb, hlv, hlc⟩ := (Row.own hown).at1 hlt
      subst hla
      obtain ⟨i, hi⟩ : ∃ i, i = L[j] := ⟨_, rfl⟩
      have hvi : v = .int .i64 (i : Int) := by rw [hi]; simp [ncells, hlt] at hlv; exact hlv.symm
      subst hvi
      have hiF : i < fs.length := by rw [hfk.out.1, hi]; exact HLI.out _ (List.getElem_mem hlt)
      have hdr : L.drop j = i :: L.drop (j + 1) := by rw [hi]; exact List.drop_eq_getElem_cons hlt
      have hcut' := hcut.out
      rw [hdr] at hcut'
      have hip : i < X1.ps.length := by rw [hD.flen]; exact hiF
      obtain ⟨f, hf⟩ : ∃ f, f = fs[i] := ⟨_, rfl⟩
      have hfi : fs[i]? = some f := by rw [hf]; exact List.getElem?_eq_getElem hiF
      have hfo := hfk.out.2 i f hfi
      have hD1c := hD.box.cell 1
      simp only [Dw.cells, List.getElem?_cons_zero, List.getElem?_cons_succ] at hD1c
      rw [hxd] at hD1c
      obtain ⟨gf, capf, hfv, hfc, hfm⟩ := hD.fileAt hiF
      rw [hfv] at hD1c
      have hptr : X1.ps.getD i (0, Go.undef) = X1.ps[i] := by simp [List.getD_eq_getElem?_getD, hip]
      rw [hptr] at hfc
      have hfile : FileAt wr X1.ps[i] f := by rw [hf]; exact hD.file i hiF hip
      have key := fun (W w2 : World) (hDW : DK W X1 { S with files := fs }) (v : Value) (f2 : List UInt8 × Nat) (hf2 : FileAt w2 ((X1.ps[i]).1, v) f2) (cc : Chg (fileFoot X1.ps[i]) W w2) (hv : ∀ g, v.ownBlock = some g → (X1.ps[i]).2.ownBlock = some g) => DK.setFile hDW hip hf2 cc (fun g e => .inl (hv g e))
      have hfs := fun (v : Value) (hv : ∀ g, v.ownBlock = some g → (X1.ps[i]).2.ownBlock = some g) (g : Nat) (hg : g ∈ ({ X1 with ps := X1.ps.set i ((X1.ps[i]).1, v) } : Dw).foot) => (foot_set hip (n := g + 1) (fun g e => .inl (hv g e)) g hg).resolve_right (by omega)
      have hffo := fun g hg => file_foot (X := X1) (i := i) hip (g := g) hg
      have hself := hD.apart.self _ (List.getElem_mem hip)
      have hiF' : (i : Int) < (fs.length : Int) := by omega
      generalize X1.ps[i] = p at *
      obtain ⟨pb, pv⟩ := p
      obtain ⟨hfb, hfr⟩ := hfile
      simp only at hfb hfr
      obtain ⟨bA, bc, hbv, hbn, hbm, _⟩ := own_form hfr
      subst hbv
      have e0 := hfb.cell 0
      have e1 := hfb.cell 1
      have z0 := hfb.free 0
      have z1 := hfb.free 1
      simp only [List.getElem?_cons_zero, List.getElem?_cons_succ] at e0 e1
      obtain ⟨nn, hnn⟩ : ∃ nn : Nat, (f.1.length : Int) - (f.2 : Int) = (nn : Int) := ⟨f.1.length - f.2, by omega⟩
      have hn3 : f.1.length - f.2 = nn := by omega
      have hnr : nn ≤ 250000 := by omega
      unfold ptrV at hfc
      have HK := Lib.hid key
      have HFS := Lib.hid hfs
      have HFF := Lib.hid hffo
      have HCU := Lib.hid hcut'
      have HFI := Lib.hid hfi
      have HFO := Lib.hid hfo
      have HN3 := Lib.hid hn3
      have HSF := Lib.hid hself
      clear key hfs hffo hcut' hcut hfi hn3 hi hf hlv hdr hptr hself
      go_upto_region 6 with (fail)
      go_quiet (fail)
      have hbq : Below wr.heap.size wr (wr.drewN nq) := below_drewN (Below.refl _ _) nq
      by_cases hn0 : nn = 0
      · subst hn0
        have HC0 := Lib.hid ((cut_zero HFI.out HN3.out).symm.trans HCU.out)
        go_wp2
        go_roundw
        case rel => exact ⟨j + 1, fs, ks1, X1, A1, n1, c1, by omega, by go_num, hxd, hD.below hbq, hcg.trans (Chg.of_below hbq []) (fun g hg => by cases hg), hsz, hfX, hkp.below hbq (by omega), own_below hown hbq, hfk, HC0⟩
        case measure => simp [intOf]; omega
      · have e9 : ((nn : Int) == 0) = false := by rw [beq_eq_false_iff_ne]; omega
        have hkq := hkp.below hbq (by omega)
        have hnx := next_any X.foot w.heap.size w.heap.size ks1 (nn : Int) (wr.drewN nq) A1 n1 c1 hkq (Nat.le_refl _)
        have HC1 := Lib.hid ((cut_more HFI.out HN3.out hn0).symm.trans HCU.out)
        have hkr := kept_range nn (Sd.next ks1 nn).1
        have hkc := kept_cases nn (Sd.next ks1 nn).1
        generalize Sd.next ks1 (nn : Int) = nx at *
        obtain ⟨xx, ks2⟩ := nx
        simp only at hnx hkr hkc
        obtain ⟨kk, hkk⟩ : ∃ kk, kk = Sd.kept nn xx := ⟨_, rfl⟩
        rw [← hkk] at hkr hkc
        have HKK := Lib.hid hkk
        have HNX := Lib.hid hnx
        have HKC := Lib.hid hkc
        have hnp : 0 < nn := by omega
        clear hnx hkc hkk hn0
        obtain ⟨mm, hmm⟩ : ∃ mm : Nat, (f.2 : Int) + (kk : Int) = (mm : Int) := ⟨f.2 + kk, by omega⟩
        have hmm2 : mm = f.2 + kk := by omega
        have HMM := Lib.hid hmm2
        have hml : mm ≤ f.1.length := by omega
        have hmc : (mm : Int) ≤ (bc : Int) := by omega
        obtain ⟨ba, rfl⟩ : ∃ ba, bA = some ba := by
          cases bA with
          | none => have := own_none hfr; omega
          | some a => exact ⟨a, rfl⟩
        obtain ⟨gb, cu, rfl, _, hbx, hcl, _, _, htk⟩ := own_box hfr
        have HTK := Lib.hid htk
        have HCL := Lib.hid hcl
        clear htk hcl hmm2
        go_wp2_with fail
        refine HNX.out.mono ?_
        rintro e w3 ⟨rfl, hc3, A3, n3, c3, hkp3⟩
        simp only
        have hgX1 : w.heap.size ∉ X1.foot := fun hm => by have := hfX _ hm; have := hXlt _ this; omega
        have hcw3 : Chg [w.heap.size] wr w3 := (Chg.of_below hbq [w.heap.size]).trans hc3 (fun g hg => .inl hg)
        have hD3 := hD.chg hcw3 (by simpa using hgX1)
        have hcg3 : Chg X.foot w w3 := hcg.trans hcw3 (fun g hg => .inr (by rw [List.mem_singleton.1 hg]; exact Nat.le_refl _))
        have hown3 := own_chg hown hcw3 (fun g hg hm => by have := (hown.lt g hg).1; simp at hm; omega)
        have hfb3 := hfb.chg hcw3 (by simp only [List.mem_singleton]; intro e; subst e; exact hgX1 (HFF.out _ (by simp [fileFoot])))
        have hbx3 := hbx.chg hcw3 (by simp only [List.mem_singleton]; intro e; subst e; exact hgX1 (HFF.out _ (by simp [fileFoot, Value.ownBlock])))
        have e0 := hfb3.cell 0
        have e1 := hfb3.cell 1
        have z0 := hfb3.free 0
        have z1 := hfb3.free 1
        simp only [List.getElem?_cons_zero, List.getElem?_cons_succ] at e0 e1
        have hne : gb ≠ pb := by
          have := HSF.out
          simp only [Value.ownBlock, ne_eq, Option.some.injEq] at this
          exact this
        have h1 := hfb3.store 0 (.slice (some ⟨gb, 0, none⟩) mm bc)
        have h2 := h1.store 1 (.int .i64 (mm : Int))
        simp only [List.set_cons_zero, List.set_cons_succ] at h2
        obtain ⟨w5, hw5⟩ : ∃ w5, w5 = (w3.setCell ⟨pb, 0, none⟩ (.slice (some ⟨gb, 0, none⟩) mm bc)).setCell ⟨pb, 1, none⟩ (.int .i64 (mm : Int)) := ⟨_, rfl⟩
        have hcp : Chg [pb] w3 w5 := by
          rw [hw5]
          exact ((Chg.refl [pb] w3).setCell _ (.inl (by simp))).setCell _ (.inl (by simp))
        rw [← hw5] at h2
        have hbx5 := hbx3.chg hcp (by simpa using hne)
        have hrow5 := box_own (base := 0) (n := mm) (Nat.zero_le _) hbx5 HCL.out (by omega) hbm
        have hset : cu.take (mm * 1) = bts (f.1.take mm) := by
          have h3 := HTK.out
          rw [Nat.mul_one] at h3 ⊢
          rw [bts_take, ← h3, List.take_take, Nat.min_eq_left hml]
        rw [hset] at hrow5
        have htl : (f.1.take mm).length = mm := by rw [List.length_take]; omega
        have hrow6 : w5.ownsRow 0 5 1 (.slice (some ⟨gb, 0, none⟩) mm bc) (f.1.take mm).length (bts (f.1.take mm)) := by rw [htl]; exact hrow5
        have hff5 : Chg (fileFoot (pb, Value.slice (some ⟨gb, 0, none⟩) f.1.length bc)) w3 w5 := hcp.mono (fun g hg => .inl (by rw [List.mem_singleton.1 hg]; simp [fileFoot]))
        have hvv : ∀ g, (Value.slice (some ⟨gb, 0, none⟩) mm bc).ownBlock = some g → (Value.slice (some ⟨gb, 0, none⟩) f.1.length bc).ownBlock = some g := fun g hg => hg
        have hD5 := HK.out w3 w5 hD3 (.slice (some ⟨gb, 0, none⟩) mm bc) (f.1.take mm, mm) ⟨h2, hrow6⟩ hff5 hvv
        have hf5 := HFS.out (.slice (some ⟨gb, 0, none⟩) mm bc) hvv
        have hpbX := HFF.out pb (by simp [fileFoot])
        have hcg5 : Chg X.foot w w5 := hcg3.trans hcp (fun g hg => .inl (by rw [List.mem_singleton.1 hg]; exact hfX _ hpbX))
        have hkp5 := hkp3.chg hcp (Nat.le_trans (by omega) hcg3.size) (by simp only [List.mem_singleton]; intro e; exact hgX1 (by rw [e]; exact hpbX)) (fun b hb => .inr (by rw [List.mem_singleton.1 hb]; exact hfX _ hpbX))
        have hown5 := own_chg hown3 hcp (fun g hg hm => by
          have h3 := (hown3.lt g hg).1
          have h4 := hXlt _ (hfX _ hpbX)
          rw [List.mem_singleton.1 hm] at h3
          omega)
        have hfk5 : Fok S.files.length (fs.set i (f.1.take mm, mm)) := ⟨by rw [List.length_set]; exact hfk.out.1, fun x y hxy => by
          rw [List.getElem?_set] at hxy
          split at hxy
          · injection hxy with hxy
            rw [← hxy]
            simp only [List.length_take]
            omega
          · exact hfk.out.2 x y hxy⟩
        have HC5 := HC1.out
        rw [← HKK.out, ← HMM.out] at HC5
        have FIN : Hid (∀ w6, Below w5.heap.size w5 w6 → ∃ (fs : List (List UInt8 × Nat)) (ks1 : List Int) (X1 : Dw) (A1 : Option Addr) (n1 c1 : Nat), X1.d = X.d ∧ DK w6 X1 { S with files := fs } ∧ Chg X.foot w w6 ∧ w.heap.size + 1 ≤ w6.heap.size ∧ (∀ g ∈ X1.foot, g ∈ X.foot) ∧ Kp X.foot w.heap.size w6 w.heap.size ks1 A1 n1 c1 ∧ w6.ownsRow (w.heap.size + 1) 3 1 (.slice (some la) L.length lc) L.length (ncells L) ∧ Hid (Fok S.files.length fs) ∧ Hid (Sd.cutFiles (L.drop (j + 1)) fs ks1 = C)) := Lib.hid (fun w6 hb6 => ⟨fs.set i (f.1.take mm, mm), ks2, { X1 with ps := X1.ps.set i (pb, Value.slice (some ⟨gb, 0, none⟩) mm bc) }, A3, n3, c3, hxd, hD5.below hb6, hcg5.trans (Chg.of_below hb6 []) (fun g hg => by cases hg), Nat.le_trans hsz (Nat.le_trans hcw3.size (Nat.le_trans hcp.size hb6.size)), fun g hg => hfX g (hf5 g hg), hkp5.below hb6 (Nat.le_trans (by omega) (Nat.le_trans hcw3.size hcp.size)), own_below hown5 hb6, Lib.hid hfk5, Lib.hid HC5⟩)
        have hszw : w.heap.size ≤ wr.heap.size := by omega
        clear HC5 hfk5 hown5 hkp5 hcg5 hf5 hD5 hvv hff5 hrow6 htl hset hrow5 hbx5 h2 h1 hown3 hcg3 hD3 hcw3 hgX1 hfb3 hbx3 hkp3 HNX HCU HFI HN3 HK HFS HFF HTK HCL hfb hfr hown hkp hcg hD
        have HW5 := Lib.hid hw5
        clear hw5
        rcases HKC.out with hk | ⟨hk1, hk2, hk3⟩
        all_goals
          go_wp2_with fail
          have hmi : IntKind.i64.wrap (mm : Int) = (mm : Int) := IntWalk.i64_in _ (by omega)
          go_still_tail 14, (by kernel_rfl)
          change wpList _ _ _ _ _ (World.drew w3)
          go_wp2
          go_roundw
          case rel =>
            obtain ⟨fs', ks', X', A', n', c', g1, g2, g3, g4, g5, g6, g7, g8, g9⟩ := FIN.out w5.drew (below_drew (Below.refl _ _))
            rw [show w5 = _ from HW5.out] at g2 g3 g4 g6 g7
            exact ⟨j + 1, fs', ks', X', A', n', c', by omega, by go_num, g1, g2, g3, g4, g5, g6, g7, g8, g9⟩
          case measure => simp [intOf]; omega
    · obtain rfl : j = L.length := by omega
      have hcf : C = (fs, ks1) := by
        have := hcut.out
        rw [List.drop_length] at this
        exact this.symm
      have HCF := Lib.hid hcf
      clear hcf hcut
      have hTl : S.turns.length ≤ 1099511627776 := by unfold Sd.load at hload; omega
      have hFl : S.files.length ≤ 1099511627776 := by unfold Sd.load at hload; omega
      obtain ⟨tA, tc, htv, htn, htm, _⟩ := own_form hD.turns
      simp only at htv htn
      have d4 := hD.box.cell 4
      simp only [Dw.cells, List.getElem?_cons_zero, List.getElem?_cons_succ] at d4
      rw [hxd, htv] at d4
      have htg := HW.out.gturns
      have htu := HW.out.turn
      clear hown
      go_wp2_with fail
      go_loopw [79] (fun jj wr2 => ∃ (j : Nat) (m : Nm) (ks2 : List Int) (A2 : Option Addr) (n2 c2 : Nat), j ≤ S.turns.length ∧ jj = .int .i64 (j : Int) ∧ DK wr2 X1 { S with files := fs, lasted := m } ∧ Chg X.foot w wr2 ∧ w.heap.size + 1 ≤ wr2.heap.size ∧ Kp X.foot w.heap.size wr2 w.heap.size ks2 A2 n2 c2 ∧ m.length ≤ S.lasted.length + j ∧ Hid (Sd.doTurns (S.turns.drop j) m ks2 = Sd.doTurns S.turns S.lasted ks1)) (fun jj _ => S.turns.length - (intOf jj).toNat)
      case atStart => exact ⟨0, S.lasted, ks1, A1, n1, c1, Nat.zero_le _, rfl, hD, hcg, hsz, hkp, by omega, Lib.hid (by rw [List.drop_zero])⟩
      case round =>
        obtain ⟨j, m, ks2, A2, n2, c2, hj2, rfl, hD2, hcg2, hsz2, hkp2, hml2, hdt⟩ := hrel
        clear hD hcg hsz hkp d4
        have hgX1 : w.heap.size ∉ X1.foot := fun hm => by have := hfX _ hm; have := hXlt _ this; omega
        by_cases hlt2 : j < S.turns.length
        · have hrt := hD2.turns
          rw [htv] at hrt
          obtain ⟨ta, htl, hta, htb, q0, q1, q2, q3⟩ := (Row.own hrt).turn hlt2
          subst hta
          obtain ⟨t, ht⟩ : ∃ t, t = S.turns[j] := ⟨_, rfl⟩
          rw [← ht] at q0 q1 q2 q3
          have hdr : S.turns.drop j = t :: S.turns.drop (j + 1) := by rw [ht]; exact List.drop_eq_getElem_cons hlt2
          have hdt' := hdt.out
          rw [hdr, turns_step] at hdt'
          have hg := htg t (by rw [ht]; exact List.getElem_mem _)
          have hu := htu t (by rw [ht]; exact List.getElem_mem _)
          have hbt0 := HBS.out t (by rw [ht]; exact List.getElem_mem _)
          have hbb := (Below.refl wr.heap.size wr).alloc (Nat.le_refl _) (.cells (turnCells t).toArray 101)
          have hbt := BoxO.new wr (turnCells t).toArray 101
          have hkp3 := hkp2.below hbb (by omega)
          have hnx := next_any X.foot w.heap.size w.heap.size ks2 0 _ A2 n2 c2 hkp3 (Nat.le_refl _)
          have hD3 := hD2.below hbb
          generalize Sd.next ks2 0 = nx at *
          obtain ⟨xx, ks3⟩ := nx
          simp only at hnx hdt'
          have hom := odd_mask xx
          have hsb : wr.heap.size < (wr.alloc (.cells (turnCells t).toArray 101)).heap.size := by simp
          have HNX := Lib.hid hnx
          have HDT := Lib.hid hdt'
          have hcw : Chg X.foot w (wr.alloc (.cells (turnCells t).toArray 101)) := hcg2.trans (Chg.of_below hbb []) (fun g hg => by cases hg)
          have HSZ : Hid (w.heap.size + 1 ≤ (wr.alloc (.cells (turnCells t).toArray 101)).heap.size) := Lib.hid (by simp; omega)
          clear hnx hdt' hdt hdr ht hrt hkp2 hkp3 hD2 hbb hcg2
          unfold turnCells at *
          have hwne : w.heap.size ≠ wr.heap.size := by omega
          generalize hVe : wr.alloc (.cells _ 101) = V at *
          obtain ⟨tb, htbE⟩ : ∃ tb, tb = wr.heap.size := ⟨_, rfl⟩
          go_wp2_with fail
          refine HNX.out.mono ?_
          rintro e w3 ⟨rfl, hc3, A3, n3, c3, hkp4⟩
          have hD4 := hD3.chg hc3 (by simpa using hgX1)
          have hcw4 : Chg X.foot w w3 := hcw.trans hc3 (fun g hg => .inr (by rw [List.mem_singleton.1 hg]; exact Nat.le_refl _))
          have hbt4 := hbt.chg hc3 (by simpa using hwne.symm)
          have hsz4 := Nat.le_trans HSZ.out hc3.size
          by_cases hod : xx % 2 = 0
          · rw [hod] at hom
            rw [if_pos hod] at HDT
            have c0 := hbt4.cell 0
            have c1' := hbt4.cell 1
            have c2' := hbt4.cell 2
            have c3' := hbt4.cell 3
            have d3 := hD4.box.cell 3
            simp only [Dw.cells, List.getElem?_cons_zero, List.getElem?_cons_succ] at c0 c1' c2' c3' d3
            rw [hxd] at d3
            have hdo := do_any t.kind t.file t.a t.b (by have := named_len hg.1; unfold maxLen; omega) (by have := hbt0; unfold maxLen; omega) (by omega) X1.lb m.length m w3.drew hD4.lasted.drew (by unfold maxLen; omega) hg.2.2
            have HDO := Lib.hid hdo
            clear hdo hD3 hbt hVe
            go_wp2_with fail
            go_still_tail 5, (by kernel_rfl)
            change wpList _ _ _ _ _ (World.drew w3)
            go_wp2_with fail
            simp only [turnV] at HDO
            refine HDO.out.mono ?_
            rintro e w5 ⟨rfl, hn5, hc5⟩
            have hc5' : Chg [X1.lb] w3 w5 := (Chg.refl [X1.lb] w3).drew.trans hc5 (fun g hg => .inl hg)
            have hD5 := hD4.setLasted hn5 hc5'
            have hlbX := hfX X1.lb (mem_foot.2 (.inr (.inr (.inl rfl))))
            have hcw5 : Chg X.foot w w5 := hcw4.trans hc5' (fun g hg => .inl (by rw [List.mem_singleton.1 hg]; exact hlbX))
            have hkp5 := hkp4.chg hc5' (by omega) (by simp only [List.mem_singleton]; intro e; have := hXlt _ hlbX; omega) (fun b hb => .inr (by rw [List.mem_singleton.1 hb]; exact hlbX))
            have hgl := go_length (m := m) (names_apart hD4.lasted) t
            have hsz5 := Nat.le_trans hsz4 hc5'.size
            have hml5 : (Tn.go ⟨t.kind, t.file, t.a, t.b⟩ m).length ≤ S.lasted.length + (j + 1) := by
              have : Tn.go ⟨t.kind, t.file, t.a, t.b⟩ m = t.go m := rfl
              rw [this]
              split at hgl <;> omega
            clear hgl hn5 hc5 hc5' hD4 hcw4 hkp4 hbt4 HDO
            go_wp2
            go_roundw
            case rel => exact ⟨j + 1, _, ks3, A3, n3, c3, by omega, by go_num, hD5, hcw5, hsz5, hkp5, hml5, HDT⟩
            case measure => simp [intOf]; omega
          · have hod1 : xx % 2 = 1 := by omega
            rw [hod1] at hom
            rw [if_neg hod] at HDT
            clear hD3 hbt hVe
            go_wp2
            go_roundw
            case rel => exact ⟨j + 1, m, ks3, A3, n3, c3, by omega, by go_num, hD4, hcw4, hsz4, hkp4, by omega, HDT⟩
            case measure => simp [intOf]; omega
        · obtain rfl : j = S.turns.length := by omega
          have hmf : Sd.doTurns S.turns S.lasted ks1 = m := by
            have := hdt.out
            rw [List.drop_length] at this
            exact this.symm
          have hbx2 := hD2.box
          rw [hxd] at hbx2
          have d2 := hbx2.cell 2
          have d3 := hbx2.cell 3
          have f2 := hbx2.free 2
          simp only [Dw.cells, List.getElem?_cons_zero, List.getElem?_cons_succ] at d2 d3
          have hst := hbx2.store 2 (.map (some X1.lb))
          have hcs := chg_set wr ⟨X.d, 2, none⟩ (.map (some X1.lb))
          simp only [Dw.cells, List.set_cons_zero, List.set_cons_succ] at hst
          have hdlb := hD2.apart.d_lb
          rw [hxd] at hdlb
          have hlast := map_chg hD2.lasted hcs (by simpa using hdlb.symm)
          obtain ⟨V, hVe⟩ : ∃ V, V = wr.setCell ⟨X.d, 2, none⟩ (.map (some X1.lb)) := ⟨_, rfl⟩
          rw [← hVe] at hst hcs hlast
          have hcl := AnyW.maps_Clone_owns Tryz.clone60 9 (plainElem (H := Unit) Tryz.prog 3) X1.lb _ _ V hlast
          have c2V := hst.cell 2
          have c3V := hst.cell 3
          have f3V := hst.free 3
          simp only [List.getElem?_cons_zero, List.getElem?_cons_succ] at c2V c3V
          rw [hVe] at hcl c2V c3V f3V
          have HCL := Lib.hid hcl
          have HVE := Lib.hid hVe
          clear hVe hcl
          go_wp2_with fail
          refine HCL.out.mono ?_
          rintro e w6 ⟨rfl, hn6, hl6, hb6⟩
          have hVE := HVE.out
          rw [← hVE] at hn6 hb6 ⊢
          clear hVE
          have hst6 := hst.below hb6
          have hcs6 : Chg [X.d] wr w6 := hcs.trans (Chg.of_below hb6 []) (fun g hg => by cases hg)
          have e3 := hst6.free 3
          have e4 := hst6.free 4
          have e6 := hst6.free 6
          have e7 := hst6.free 7
          have e8 := hst6.free 8
          have v3 := hst6.cell 3
          have v4 := hst6.cell 4
          have v6 := hst6.cell 6
          have v7 := hst6.cell 7
          have v8 := hst6.cell 8
          simp only [List.getElem?_cons_zero, List.getElem?_cons_succ] at v3 v4 v6 v7 v8
          have hfin := ((((hst6.store 3 (.map (some V.heap.size))).store 4 (.slice none 0 0)).store 6 (.bool false)).store 7 (.int .i64 0)).store 8 (.int .i64 0)
          simp only [List.set_cons_zero, List.set_cons_succ] at hfin
          clear c2V c3V f3V d2 d3 f2
          have hcs7 : Chg [X.d] w6 (((((w6.setCell ⟨X.d, 3, none⟩ (.map (some V.heap.size))).setCell ⟨X.d, 4, none⟩ (.slice none 0 0)).setCell ⟨X.d, 6, none⟩ (.bool false)).setCell ⟨X.d, 7, none⟩ (.int .i64 0)).setCell ⟨X.d, 8, none⟩ (.int .i64 0)) := (((((Chg.refl [X.d] w6).setCell _ (.inl (by simp))).setCell _ (.inl (by simp))).setCell _ (.inl (by simp))).setCell _ (.inl (by simp))).setCell _ (.inl (by simp))
          obtain ⟨w7, hw7⟩ : ∃ w7, w7 = (((((w6.setCell ⟨X.d, 3, none⟩ (.map (some V.heap.size))).setCell ⟨X.d, 4, none⟩ (.slice none 0 0)).setCell ⟨X.d, 6, none⟩ (.bool false)).setCell ⟨X.d, 7, none⟩ (.int .i64 0)).setCell ⟨X.d, 8, none⟩ (.int .i64 0)) := ⟨_, rfl⟩
          rw [← hw7] at hfin hcs7
          have hVsz : wr.heap.size ≤ V.heap.size := hcs.size
          have hdlt := hD2.box.lt
          rw [hxd] at hdlt
          have hdk := DK.remap (b1 := X1.lb) (b2 := V.heap.size) (S' := { S with files := fs, names := m, lasted := m, turns := [], dead := false, stop := 0, fail := 0 }) hD2 (by rw [hxd]; exact hcs6.trans hcs7 (fun g hg => .inl hg)) (map_chg hl6 hcs7 (by simpa using hdlb.symm)) (map_chg hn6 hcs7 (by simp; omega)) (.inr (.inl rfl)) hVsz (by have := hD2.lasted.lt; omega) (by rw [hxd]; exact hfin) rfl rfl
          have hup : Upd X w w7 (S.crash ks) := by
            have e : S.crash ks = { S with files := fs, names := m, lasted := m, turns := [], dead := false, stop := 0, fail := 0 } := by rw [HCR.out, HCF.out, hmf]
            rw [e]
            refine ⟨{ X1 with nb := X1.lb, lb := V.heap.size, tv := .slice none 0 0 }, hxd, hdk, hcg2.trans (hcs6.trans hcs7 (fun g hg => .inl hg)) (fun g hg => .inl (by rw [List.mem_singleton.1 hg]; exact mem_foot.2 (.inl rfl))), fun g hg => ?_⟩
            rcases mem_foot.1 hg with h5 | h5 | h5 | h5 | h5 | h5
            · exact .inl (hfX g (mem_foot.2 (.inl h5)))
            · exact .inl (hfX g (mem_foot.2 (.inr (.inr (.inl h5)))))
            · right
              have h6 : g = V.heap.size := h5
              omega
            · exact .inl (hfX g (mem_foot.2 (.inr (.inr (.inr (.inl h5))))))
            · cases h5
            · exact .inl (hfX g (mem_foot.2 (.inr (.inr (.inr (.inr (.inr h5))))))) 
          have HU := Lib.hid hup
          have HW7 := Lib.hid hw7
          clear hup hdk hfin hcs7 hw7 hcs6 hst6 hb6 hl6 hn6 hlast hcs hst hbx2 hD2 hmf hdt hcg2 hkp2
          go_wp2
          refine bodyPost_end (v := .tuple #[]) (by simp [results, go_sem]) rfl ⟨rfl, ?_⟩
          have := HU.out
          rw [show w7 = _ from HW7.out] at this
          exact this
end Go.Proofs.YthepokgkfaocmaaGreatDoor

/-
  Crash in the laws' words; a rewrite on a dead disk.
-/
namespace Go.Proofs.YthepokgkfaocmaaGreatDoor
open Go Go.RowKit Go.Shelf
variable {P : Sl} {W0 w w1 : World} {X : Dw} {S : Sd} {m : Nat} {M : Gs}
theorem GAt.crash (h : GAt P W0 w X S m M) (hi : S.co.In) (hm : S.co.most ≤ 64) (hl : S.load ≤ 1099511627776) {A : Option Addr} {n c : Nat} {ks : List Int} (hr : Row W0.heap.size W0 A n 1 (icells ks)) (hn : n ≤ c) (hc : c ≤ maxLen) :
    Calls Tryz.prog 34 #[.pointer (some ⟨X.d, 0, none⟩), .slice A n c] w fun e w' => e = .returned (.tuple #[]) ∧ ∃ X', X'.d = X.d ∧ GAt P W0 w' X' (S.crash ks) m M := by
  have hlm : S.lasted.length ≤ 1099511627776 := by
    have : S.lasted.length ≤ S.co.most := by unfold Co.most; exact Nat.le_add_right _ _
    omega
  refine (crash_any X S w A n c ks h.dm.wf hl h.dm.dk ((hr.below h.bel).up h.bel.size) hn hc (fun j hj a ha hx => by
    have h1 := row_lt hr hj ha
    have h2 := h.low _ hx
    omega) (fun t ht => Nat.le_trans (hi.tb t ht) (by omega)) hlm).mono fun e w' ⟨h1, h2⟩ => ⟨h1, ?_⟩
  obtain ⟨X2, k⟩ := h.acc0.step (h.dm.upd (Sd.crash_wf h.dm.wf hi hm ks) h2)
  exact ⟨X2, k.e, h.acc k⟩
namespace Gw
open Mn
open Mw (man man_named)
theorem rewriteM_dead {d : Sd} (hd : d.dead = true) (hb : M.broken = false) : ∃ d1, rewriteM d M = (d1, M, 50) ∧ d1.co = d.co ∧ d1.dead = true := by
  have hl : d.list = [] := by unfold Sd.list; rw [if_pos hd]
  obtain ⟨e1, e2, e3⟩ := write_dead hd (man_named (n := 1) (Nat.le_refl 1) (by decide)) M.v.whole.rec_
  have hdd : (d.write (man 1) M.v.whole.rec_).1.dead = true := by
    have := Ct.dead_reach (a := d.ct) hd e2.1
    have h2 := congrArg Ct.dead this
    exact h2.trans hd
  refine ⟨(d.write (man 1) M.v.whole.rec_).1, ?_, e3, hdd⟩
  unfold rewriteM
  rw [if_neg (by simp [hb]), hl]
  have e4 : greatest [] kMan = 0 := rfl
  rw [e4, if_neg (by decide)]
  have e5 : name kMan (0 + 1) = man 1 := rfl
  rw [e5]
  unfold rewrite
  rw [if_pos (by rw [e1]; decide), e1]
end Gw
theorem CI.dead_rewrite {vs : List Vw} {i n G a b : Nat} {d : Sd} {ts : List Ed} (h : CI vs i d M n G ts a b) (hd : d.dead = true) (hw : d.Wf) (ha : a ≤ 45) (hb : b ≤ 240000) : ∃ d1, Gw.rewriteM d M = (d1, M, 50) ∧ d1.dead = true ∧ d1.load ≤ 10000 ∧ SV d1 (May vs i) 0 := by
  obtain ⟨d1, e1, e2, e3⟩ := Gw.rewriteM_dead hd h.ms.broken
  have hl := Gw.rewriteM_load hw M
  rw [e1] at hl
  have hs := h.sv (by omega) (by omega)
  have h0 := h.load
  have hq : d1.quota = d.quota := congrArg Co.quota e2
  exact ⟨d1, e1, e3, by simp only at hl; omega, by rw [e2]; exact hs.in_, by rw [e2]; exact hs.lead, by rw [e2]; exact hs.under, by rw [e2]; exact hs.most, by rw [e2]; exact hs.total, hq.trans hs.quota, by simp only at hl; omega⟩
end Go.Proofs.YthepokgkfaocmaaGreatDoor
