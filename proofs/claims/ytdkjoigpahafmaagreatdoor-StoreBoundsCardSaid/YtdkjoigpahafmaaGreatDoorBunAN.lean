/- Texts BlockA, BloomA, Apply, EditJ in one. No conditions. -/
import Derived.Test.YtdkjoigpahafmaaGreatDoorBunAK
import Derived.Test.YtdkjoigpahafmaaGreatDoorBunAD
import Derived.Test.YtdkjoigpahafmaaGreatDoorBunAE
import Derived.Test.YtdkjoigpahafmaaGreatDoorBunAA
import Derived.Test.YtdkjoigpahafmaaGreatDoorBunAJ
import Derived.Deep.RegionHeld3
import Derived.Test.YtdkjoigpahafmaaGreatDoorBunAH
import Derived.Test.YtdkjoigpahafmaaGreatDoorBunAB
import Derived.Test.YtdkjoigpahafmaaGreatDoorBunAL
import Derived.Deep.RegionLaw

set_option linter.unusedSimpArgs false
set_option linter.unusedVariables false
set_option maxRecDepth 100000
set_option maxHeartbeats 16000000
namespace Go.Proofs.YtdkjoigpahafmaaGreatDoor
section
open Go Go.RowKit Go.Lib
theorem Fr.take_not1 (l : List UInt8) (p : Nat) : (Fr.take l p).2.2.2 ≠ 1 ∧ (Fr.take l p).2.1.length ≤ l.length := by
 unfold Fr.take
 split
 ·simp
 ·split
  ·simp
  ·split
   ·simp
   ·split
    ·simp
    ·split
     ·simp
     ·refine ⟨by simp, ?_⟩
      simp only [List.length_take, List.length_drop]
      omega
theorem bmay1_any (a : It) (w : World) : Calls Tryz.prog 270 #[a.val] w fun e w' => e = .returned (.bool (!a.ok)) ∧ Below w.heap.size w w' := by
 have hok := fun W => iok_any a W
 unfold It.val at hok ⊢
 go_enter Tryz.func270, Tryz.ntmps270
 go_wp2_with fail
 refine (hok _).mono ?_
 rintro e w1 ⟨rfl, hb⟩
 go_wp2
 go_ret
 exact ⟨rfl, later_ ((Below.refl _ _).alloc (Nat.le_refl _) _) hb⟩
theorem bmay_any (A : Option Addr) (n c : Nat) (l : List It) (w : World) (hn : n ≤ 1000000) (hr : Row w.heap.size w A n 5 (itc l)) :
  Calls Tryz.prog 243 #[.slice A n c] w fun e w' => e = .returned (.bool (Tb.may l)) ∧ Below w.heap.size w w' := by
 have hnn := hr.itlen
 have hri := irises_any A n c l w hn hr
 have hca := fun (W : World) (hb : Below w.heap.size w W) => ihas_cap 270 (fun _ _ => rfl) #[] (fun x => !x.ok) A n c l W hn ((hr.below hb).up hb.size) (fun x w1 _ => bmay1_any x w1)
 simp only [any_nok] at hca
 obtain ⟨rb, hrb⟩ : ∃ rb, rb = decide (Rises l) := ⟨_, rfl⟩
 obtain ⟨ab, hab⟩ : ∃ ab, ab = l.all It.ok := ⟨_, rfl⟩
 have hm : Tb.may l = (decide (0 < n) && rb && ab) := by
  unfold Tb.may
  rw [hrb, hab]
  congr 2
  rw [decide_eq_decide, ← hnn, List.length_pos_iff]
 rw [← hrb] at hri
 rw [← hab] at hca
 rw [hm]
 have HRI := Lib.hid hri
 have HCA := Lib.hid hca
 clear hri hca hm hr hrb hab
 by_cases h0 : 0 < n
 ·have h0i : (0 : Int) < (n : Int) := by omega
  have hd : decide (0 < n) = true := decide_eq_true h0
  rw [hd]
  go_enter Tryz.func243, Tryz.ntmps243
  go_wp2_with fail
  refine HRI.out.mono ?_
  rintro e w1 ⟨rfl, hb1⟩
  cases rb with
  | false =>
   go_wp2
   go_ret
   exact ⟨rfl, hb1⟩
  | true =>
   go_wp2_with fail
   refine (HCA.out _ hb1).mono ?_
   rintro e w2 ⟨rfl, hb2⟩
   have hbz := later_ hb1 hb2
   go_wp2
   go_ret
   exact ⟨ret_bo (by simp), hbz⟩
 ·have h0i : ((0 : Int) < (n : Int)) = False := eq_false (by omega)
  have hd : decide (0 < n) = false := decide_eq_false h0
  rw [hd]
  go_enter Tryz.func243, Tryz.ntmps243
  go_wp2
  go_ret
  exact ⟨rfl, Below.refl _ _⟩
theorem bput_any (A : Option Addr) (N c : Nat) (b : List UInt8) (L : Option Addr) (m d : Nat) (l : List It) (w : World) (hN : N ≤ 1000000) (hNc : N ≤ c) (hcm : c ≤ maxLen) (hm : m ≤ 100) (hr : Row w.heap.size w A N 1 (bts b)) (hq : Row w.heap.size w L m 5 (itc l)) (hmay : Tb.may l = true) (hf : ∀ x ∈ l, x.fit) :
  Calls Tryz.prog 219 #[.slice A N c, .slice L m d] w fun e w' => ∃ A' M c', e = .returned (.tuple #[.slice A' M c', .int .i64 0]) ∧
   w'.ownsRow w.heap.size 5 1 (.slice A' M c') M (bts (b ++ Fr.put 2 (It.bytes l))) ∧ M ≤ c' ∧ c' ≤ maxLen ∧ Below w.heap.size w w' := by
 have hmn := hq.itlen
 have hbm := bmay_any L m d l w (by omega) hq
 rw [hmay] at hbm
 have hok : ∀ x ∈ l, x.ok = true ∧ x.fit := fun x hx => by
  simp only [Tb.may, Bool.and_eq_true, List.all_eq_true] at hmay
  exact ⟨hmay.2 x hx, hf x hx⟩
 have hib := fun (W : World) (hb : Below w.heap.size w W) => ibytes_any none 0 0 [] L m d l W (by omega) (by omega) Row.nil_ ((hq.below hb).up hb.size) hok
 simp only [List.nil_append] at hib
 have hbl := It.bytes_len l
 have hm1 : ((100 : Int) < (m : Int)) = False := eq_false (by omega)
 have HBM := Lib.hid hbm
 have HIB := Lib.hid hib
 clear hbm hib hq hok hmay hf
 go_enter Tryz.func219, Tryz.ntmps219
 go_wp2_with fail
 refine HBM.out.mono ?_
 rintro e w1 ⟨rfl, hb1⟩
 go_wp2_with fail
 refine (HIB.out _ hb1).mono ?_
 rintro e w2 ⟨A1, M1, c1, rfl, ho1, hc1, hmx, hb2⟩
 have hML : M1 = (It.bytes l).length := by
  have := ho1.1
  rw [bts_length] at this
  omega
 have hb12 := later_ hb1 hb2
 have hfp := fput_any A N c b 2 A1 M1 c1 (It.bytes l) w2 (by omega) hNc hcm ((hr.below hb12).up hb12.size) (by omega) (by omega) (by omega) hc1 hmx (Row.own ho1)
 have HFP := Lib.hid hfp
 clear hfp ho1 HIB HBM hML hr
 go_wp2_with fail
 refine HFP.out.mono ?_
 rintro e w3 ⟨A2, M2, c2, rfl, ho2, hc2, hm2, hb3⟩
 have hob := own_base ho2 hb12.size
 have hbz := later_ hb12 hb3
 have HF := Lib.hid (And.intro hob (And.intro hc2 (And.intro hm2 hbz)))
 clear ho2 hob hbz HFP
 go_wp2
 go_ret2
 exact ⟨A2, M2, c2, rfl, HF.out⟩
def bkTake (b : List UInt8) (p : Nat) : List It × Nat × Nat :=
 if (Fr.take b p).2.2.2 = 0 ∧ (Fr.take b p).1 = 2 ∧ (It.read (Fr.take b p).2.1).2 = 0 ∧ (It.read (Fr.take b p).2.1).1.length ≤ 100 ∧ Tb.may (It.read (Fr.take b p).2.1).1 = true then
  ((It.read (Fr.take b p).2.1).1, (Fr.take b p).2.2.1, 0) else ([], 0, 9)
def BtkPost (w : World) (R : List It × Nat × Nat) (e : Ending) (w' : World) : Prop := ∃ A' k c', e = .returned (.tuple #[.slice A' k c', .int .i64 (R.2.1 : Int), .int .i64 (R.2.2 : Int)]) ∧ k = R.1.length ∧ Its w.heap.size w' A' k c' R.1 ∧ Below w.heap.size w w'
theorem btake_any (A : Option Addr) (N c : Nat) (b : List UInt8) (p : Nat) (w : World) (hN : N ≤ 1000000) (hNc : N ≤ c) (hcm : c ≤ maxLen) (hr : Row w.heap.size w A N 1 (bts b)) (hp : p ≤ N) :
  Calls Tryz.prog 195 #[.slice A N c, .int .i64 (p : Int)] w (BtkPost w (bkTake b p)) := by
 have hln := hr.btlen
 have hft := ftake_any A N c b p w (by omega) hNc hcm hr hp
 obtain ⟨hn1, hbl⟩ := Fr.take_not1 b p
 obtain ⟨R, hR⟩ : ∃ R, R = bkTake b p := ⟨_, rfl⟩
 rw [← hR]
 unfold bkTake at hR
 generalize Fr.take b p = T at *
 obtain ⟨kd, body, nx, er⟩ := T
 simp only at hft hn1 hbl hR
 have hbad : ∀ w', Below w.heap.size w w' → R = ([], 0, 9) → BtkPost w R (.returned (.tuple #[.slice none 0 0, .int .i64 0, .int .i64 9])) w' := fun w' hb e => by
  rw [e]
  exact ⟨none, 0, 0, rfl, rfl, Its.nil _ _, hb⟩
 have HFT := Lib.hid hft
 have HR := Lib.hid hR
 have HBAD := Lib.hid hbad
 have he1 : ((er : Int) == 1) = false := by simp; omega
 clear hft hR hbad hr
 by_cases he : er = 0
 ·by_cases hk : kd = 2
  ·subst he hk
   have hR2 := HR.out
   have hbN : body.length ≤ 1000000 := by omega
   obtain ⟨Q, hQ⟩ : ∃ Q, Q = It.read body := ⟨_, rfl⟩
   rw [← hQ] at hR2
   obtain ⟨q, qe⟩ := Q
   simp only [true_and] at hR2
   have hrd := fun (A1 : Option Addr) (M1 c1 : Nat) (W : World) h1 h2 h3 h4 => iread_any A1 M1 c1 body W h1 h2 h3 h4
   simp only [← hQ] at hrd
   have HRD := Lib.hid hrd
   have HR2 := Lib.hid hR2
   clear hR2 hrd hQ HR
   go_enter Tryz.func195, Tryz.ntmps195
   go_wp2_with fail
   refine HFT.out.mono ?_
   rintro e w1 ⟨A1, M1, c1, rfl, ho1, hc1, hm1, hb1⟩
   have hML : M1 = body.length := by
    have := ho1.1
    rw [bts_length] at this
    omega
   have hrd1 := HRD.out A1 M1 c1 w1 (by omega) hc1 hm1 (Row.own ho1)
   have HR1 := Lib.hid hrd1
   clear hrd1 ho1 HFT HRD hML
   go_wp2_with fail
   refine HR1.out.mono ?_
   rintro e w2 ⟨A2, k, c2, rfl, hkl, hits, hb2⟩
   simp only at hkl hits
   have hb12 := later_ hb1 hb2
   have hlow : Its w.heap.size w2 A2 k c2 q := ⟨hits.row, hits.nc, hits.cm, fun a ha => Nat.le_trans hb1.size (hits.low a ha)⟩
   have HL := Lib.hid hlow
   have HKL := Lib.hid hkl
   have HB12 := Lib.hid hb12
   clear hits hb2 hb12 HR1 hlow hb1
   by_cases hqe : qe = 0
   ·subst hqe
    by_cases hk1 : k ≤ 100
    ·have hk1i : ((100 : Int) < (k : Int)) = False := eq_false (by omega)
     have hbm := bmay_any A2 k c2 q w2 (by omega) HL.out.row
     obtain ⟨mb, hmb⟩ : ∃ mb, mb = Tb.may q := ⟨_, rfl⟩
     rw [← hmb] at hbm
     have HBM := Lib.hid hbm
     have HMB := Lib.hid hmb
     clear hbm hkl hmb
     go_wp2_with fail
     refine HBM.out.mono ?_
     rintro e w3 ⟨rfl, hb3⟩
     have hb13 := later_ HB12.out hb3
     cases mb with
     | true =>
      have hRR : R = (q, nx, 0) := by rw [HR2.out, if_pos ⟨trivial, by rw [← HKL.out]; exact hk1, HMB.out.symm⟩]
      have hit3 : Its w.heap.size w3 A2 k c2 q := ⟨(HL.out.row.below hb3).up hb3.size, HL.out.nc, HL.out.cm, HL.out.low⟩
      have HF := Lib.hid (show BtkPost w R (.returned (.tuple #[.slice A2 k c2, .int .i64 (nx : Int), .int .i64 0])) w3 from by rw [hRR]; exact ⟨A2, k, c2, rfl, HKL.out, hit3, hb13⟩)
      clear hRR hit3 hb13 hb3 HBM
      go_wp2
      refine bodyPost_ret (v := .tuple #[.slice A2 k c2, .int .i64 (nx : Int), .int .i64 0]) (by simp [results, go_sem]) rfl HF.out
     | false =>
      have hRR : R = ([], 0, 9) := by rw [HR2.out, if_neg (by rw [← HMB.out]; simp)]
      have HF := Lib.hid (HBAD.out w3 hb13 hRR)
      clear hRR hb13 hb3 HBM
      go_wp2
      refine bodyPost_ret (v := .tuple #[.slice none 0 0, .int .i64 0, .int .i64 9]) (by simp [results, go_sem]) rfl HF.out
    ·have hk1i : (100 : Int) < (k : Int) := by omega
     have hRR : R = ([], 0, 9) := by rw [HR2.out, if_neg (by rw [← HKL.out]; exact fun h => hk1 h.2.1)]
     have HF := Lib.hid (HBAD.out w2 HB12.out hRR)
     clear hRR hkl
     go_wp2
     refine bodyPost_ret (v := .tuple #[.slice none 0 0, .int .i64 0, .int .i64 9]) (by simp [results, go_sem]) rfl HF.out
   ·have hqe3 : ((qe : Int) == 0) = false := by simp; omega
    have hRR : R = ([], 0, 9) := by rw [HR2.out, if_neg (fun h => hqe h.1)]
    have HF := Lib.hid (HBAD.out w2 HB12.out hRR)
    clear hRR hkl
    go_wp2
    refine bodyPost_ret (v := .tuple #[.slice none 0 0, .int .i64 0, .int .i64 9]) (by simp [results, go_sem]) rfl HF.out
  ·have hk3 : ((kd : Int) == 2) = false := by simp; omega
   subst he
   have hR9 : R = ([], 0, 9) := by rw [HR.out, if_neg (by simp [hk])]
   have H9 := Lib.hid hR9
   clear hR9
   go_enter Tryz.func195, Tryz.ntmps195
   go_wp2_with fail
   refine HFT.out.mono ?_
   rintro e w1 ⟨A1, M1, c1, rfl, ho1, hc1, hm1, hb1⟩
   clear ho1 HFT
   go_wp2
   refine bodyPost_ret (v := .tuple #[.slice none 0 0, .int .i64 0, .int .i64 9]) (by simp [results, go_sem]) rfl (HBAD.out _ hb1 H9.out)
 ·have he3 : ((er : Int) == 0) = false := by simp; omega
  have hR9 : R = ([], 0, 9) := by rw [HR.out, if_neg (by simp [he])]
  have H9 := Lib.hid hR9
  clear hR9
  go_enter Tryz.func195, Tryz.ntmps195
  go_wp2_with fail
  refine HFT.out.mono ?_
  rintro e w1 ⟨A1, M1, c1, rfl, ho1, hc1, hm1, hb1⟩
  clear ho1 HFT
  go_wp2
  refine bodyPost_ret (v := .tuple #[.slice none 0 0, .int .i64 0, .int .i64 9]) (by simp [results, go_sem]) rfl (HBAD.out _ hb1 H9.out)
end
section
open Go Go.RowKit Go.Lib
structure BlAt (w : World) (f g : Nat) (b : List UInt8) : Prop where
 box : BoxO w 330 f [.int .i64 7, .slice (some ⟨g, 0, none⟩) b.length b.length]
 bits : BoxO w 5 g (bts b)
 ne : f ≠ g
theorem BlAt.below {w w' : World} {f g : Nat} {b : List UInt8} (h : BlAt w f g b) (hb : Below w.heap.size w w') : BlAt w' f g b := ⟨h.box.below hb, h.bits.below hb, h.ne⟩
theorem BlAt.chg {F : List Nat} {w w' : World} {f g : Nat} {b : List UInt8} (h : BlAt w f g b) (hb : Chg F w w') (h1 : f ∉ F) (h2 : g ∉ F) : BlAt w' f g b := ⟨h.box.chg hb h1, h.bits.chg hb h2, h.ne⟩
theorem blnew_any (n : Nat) (w : World) (hn : n ≤ 2000) :
  Calls Tryz.prog 250 #[.int .i64 (n : Int), .int .i64 10] w fun e w' => ∃ f g, e = .returned (.tuple #[.pointer (some ⟨f, 0, none⟩), .int .i64 0]) ∧ BlAt w' f g (List.replicate (Tb.fsize n) 0) ∧ w.heap.size ≤ f ∧ w.heap.size ≤ g ∧ Below w.heap.size w w' := by
 obtain ⟨i0, hi0, hz0, hz1, hz2⟩ := info_parts info_u8
 obtain ⟨fs, hfs⟩ : ∃ fs, fs = Tb.fsize n := ⟨_, rfl⟩
 have hfb : fs ≤ 3000 := by rw [hfs]; unfold Tb.fsize; omega
 obtain ⟨cs, hcs, hmk⟩ := make1 121 5 i0 (Value.int .u8 0) Tryz.underlying121 hi0 hz0 hz1 rfl fs (by rw [hz2]; omega) (by omega)
 rw [← hfs]
 have n1 : ((n : Int) < 0) = False := eq_false (by omega)
 have n2 : (10000 < (n : Int)) = False := eq_false (by omega)
 have hw1 : IntKind.i64.wrap ((n : Int) * 10) = (n : Int) * 10 := IntWalk.i64_in _ (by omega)
 have hq : (max ((n : Int) * 10) 64 + 8 - 1) / 8 = (fs : Int) := by rw [hfs]; unfold Tb.fsize; omega
 have h71 : max (7 : Int) 1 = 7 := by decide
 have HFS := Lib.hid hfs
 clear hfs
 go_enter Tryz.func250, Tryz.ntmps250
 go_wp2
 go_ret2
 have hb0 : BoxO (w.alloc (.cells cs 5)) 5 w.heap.size (bts (List.replicate fs 0)) := by
  have := BoxO.new w cs 5
  rw [hcs] at this
  simpa [bts] using this
 have hsz : (w.alloc (.cells cs 5)).heap.size = w.heap.size + 1 := by simp
 refine ⟨w.heap.size + 1, w.heap.size, rfl, ⟨?_, hb0.alloc _, by omega⟩, by omega, Nat.le_refl _, ((Below.refl w.heap.size w).alloc (Nat.le_refl _) _).alloc (by omega) _⟩
 rw [← hsz, List.length_replicate]
 exact BoxO.new _ _ _
theorem bl_val (hv k size x : Nat) (hx : x = (((hv % 4294967296 + k * (hv / 4294967296)) % 4294967296)) % (size * 8)) : ((hv : Int) + (k : Int) * ((hv : Int) / 4294967296)) % 4294967296 % ((size : Int) * 8) = (x : Int) := by
 have hq : ((k * (hv / 4294967296) : Nat) : Int) = (k : Int) * ((hv : Int) / 4294967296) := by rw [Int.natCast_mul, Int.natCast_ediv]; rfl
 have e : (hv % 4294967296 + k * (hv / 4294967296)) % 4294967296 = (hv + k * (hv / 4294967296)) % 4294967296 := by
  generalize k * (hv / 4294967296) = q
  omega
 rw [hx, e, ← hq]
 generalize k * (hv / 4294967296) = q
 have h3 : ((hv : Int) + (q : Int)) % 4294967296 = (((hv + q) % 4294967296 : Nat) : Int) := by omega
 have h4 : (size : Int) * 8 = ((size * 8 : Nat) : Int) := by omega
 rw [h3, h4]
 exact (Int.natCast_emod _ _).symm
theorem bl_lt (hv k size x : Nat) (hb0 : 0 < size) (hbl : size ≤ 3000) (hx : x = (((hv % 4294967296 + k * (hv / 4294967296)) % 4294967296)) % (size * 8)) : x < 24000 := by
 have := Nat.mod_lt (((hv % 4294967296 + k * (hv / 4294967296)) % 4294967296)) (show 0 < size * 8 by omega)
 rw [← hx] at this
 omega
theorem bl_wrap (x : Nat) (hxl : x < 24000) : wrap64 (x : Int) = (x : Int) := by unfold wrap64; omega
theorem blplaces_any (f g : Nat) (b : List UInt8) (K : Option Addr) (m c : Nat) (key : List UInt8) (w : World) (h : BlAt w f g b) (hb0 : 0 < b.length) (hbl : b.length ≤ 3000) (hm : m ≤ 1000) (hr : Row w.heap.size w K m 1 (bts key)) :
  Calls Tryz.prog 273 #[.pointer (some ⟨f, 0, none⟩), .slice K m c] w fun e w' => ∃ A' c', e = .returned (.slice A' 7 c') ∧ w'.ownsRow w.heap.size 3 1 (.slice A' 7 c') 7 (i64v (Tb.places b.length key)) ∧ Below w.heap.size w w' := by
 obtain ⟨i0, hi0, hz0, hz1, hz2⟩ := info_parts info_int
 have hh := hash_any K m c key w (by omega) hr
 obtain ⟨size, hsize⟩ : ∃ size, size = b.length := ⟨_, rfl⟩
 obtain ⟨hv, hhv⟩ : ∃ hv, hv = (Fnv.hash key).toNat := ⟨_, rfl⟩
 obtain ⟨P, hP⟩ : ∃ P, P = Tb.places size key := ⟨_, rfl⟩
 have hvl : hv < 18446744073709551616 := by rw [hhv]; exact (Fnv.hash key).isLt
 have hPl : P.length = 7 := by rw [hP]; simp [Tb.places]
 have hPk : ∀ k, k < 7 → P[k]? = some ((((hv % 4294967296 + k * (hv / 4294967296)) % 4294967296)) % (size * 8)) := fun k hk => by
  rw [hP, hhv]
  simp [Tb.places, hk]
 rw [← hsize, ← hP]
 rw [← hhv] at hh
 have c0 := h.box.cell 0
 have c1 := h.box.cell 1
 simp only [gE0, gE1, ← hsize] at c0 c1
 rw [← hsize] at hb0 hbl
 have HH := Lib.hid hh
 have HPK := Lib.hid hPk
 have HPL := Lib.hid hPl
 clear hh hPk hP hhv hsize h hPl hr
 go_enter Tryz.func273, Tryz.ntmps273
 go_wp2_with fail
 refine HH.out.mono ?_
 rintro e w1 ⟨rfl, rfl⟩
 clear HH
 go_wp2_with fail
 go_loopw [9, 29] (fun o i wr => ∃ (k : Nat) (A2 : Option Addr) (c2 : Nat), k ≤ 7 ∧ o = .slice A2 k c2 ∧ i = .int .i64 (k : Int) ∧ wr.ownsRow w.heap.size 3 1 (.slice A2 k c2) k (i64v (P.take k)) ∧ Below w.heap.size w wr) (fun _ i _ => 7 - (intOf i).toNat)
 case atStart => exact ⟨0, none, 0, by omega, rfl, rfl, World.ownsRow_nil _ _ _ _, Below.refl _ _⟩
 case round =>
  obtain ⟨k, A2, c2, hk7, rfl, rfl, ho, hbl2⟩ := hrel
  have HO := Lib.hid ho
  clear ho
  by_cases hk : k < 7
  ·have hki : (k : Int) < 7 := by omega
   have hwk : IntKind.i64.wrap (k : Int) = (k : Int) := IntWalk.i64_in _ (by omega)
   have hwu : IntKind.u32.wrap (k : Int) = (k : Int) := by simp only [IntKind.wrap_u32]; omega
   obtain ⟨x, hx⟩ : ∃ x : Nat, x = (((hv % 4294967296 + k * (hv / 4294967296)) % 4294967296)) % (size * 8) := ⟨_, rfl⟩
   have hpk := HPK.out k hk
   rw [← hx] at hpk
   have hxv := bl_val hv k size x hx
   have hxl := bl_lt hv k size x hb0 hbl hx
   have hw64 := bl_wrap x hxl
   have htk : i64v (P.take k) ++ [.int .i64 (x : Int)] = i64v (P.take (k + 1)) := by
    rw [List.take_add_one, hpk, i64v_snoc]
    rfl
   have hrow : Row (wr.alloc (.cells #[.int .i64 (x : Int)] 3)).heap.size (wr.alloc (.cells #[.int .i64 (x : Int)] 3)) (some ⟨wr.heap.size, 0, none⟩) 1 1 [.int .i64 (x : Int)] := by
    have := Row.new wr #[.int .i64 (x : Int)] 3 (n := 1) (size := 1) rfl
    simpa using this
   have hbA := hbl2.alloc hbl2.size (.cells #[.int .i64 (x : Int)] 3)
   have hoA := HO.out.alloc (.cells #[.int .i64 (x : Int)] 3)
   have HR := Lib.hid hrow
   have HB := Lib.hid hbA
   have HOA := Lib.hid hoA
   have HT := Lib.hid htk
   clear hrow hbA hoA htk hpk hx HO
   go_wp2_with (at_builtin; refine stop_in ?_)
   refine stop_out (wpList_app rfl (.tmp 32) (.tmp 42) _ rfl w.heap.size 3 i0 _ 1 8 Tryz.underlying61 hi0 hz0 hz1 hz2 rfl (by omega) w HB.out HB.out.size _ k _ rfl HOA.out _ _ 1 1 [.int .i64 (x : Int)] rfl HR.out (by simp [Value.oneCell']) (k + 1) _ rfl HT.out (by unfold maxLen; omega) (by omega) ?_)
   intro A3 c3 w5 z1 z2 z3 z4 z5
   have HF := Lib.hid z1
   clear z1 z3 HR HB HOA HT
   go_wp2
   go_roundw
   case rel => exact ⟨k + 1, A3, c3, by omega, rfl, by go_num, HF.out, z2⟩
   case measure => simp [intOf]; omega
  ·have hki : ((k : Int) < 7) = False := eq_false (by omega)
   have hk7' : k = 7 := by omega
   subst hk7'
   have ho := HO.out
   rw [List.take_of_length_le (by rw [HPL.out]; exact Nat.le_refl _)] at ho
   have HF := Lib.hid ho
   clear ho HO
   go_wp2
   go_ret
   exact ⟨A2, c2, rfl, HF.out, hbl2⟩
end
section
open Go Go.RowKit
structure Fresh (B : Nat) (w : World) (A : Option Addr) (n c : Nat) (fs : List (Int × Int)) : Prop where
 row : Row w.heap.size w A n 2 (fcells fs)
 nc : n ≤ c
 cm : c ≤ maxLen
 low : ∀ a, A = some a → B ≤ a.block
def ApPost (w : World) (o : Option Vw) (x : Ending) (w' : World) : Prop :=
 Below w.heap.size w w' ∧ match o with
 | none => x = .returned (.tuple #[Vw.none_.val none 0 0, .bool false])
 | some u => ∃ A N c, x = .returned (.tuple #[u.val A N c, .bool true]) ∧ Fresh w.heap.size w' A N c u.files
def drop1 (n : Int) (fs : List (Int × Int)) : Option (List (Int × Int)) := if fs.any (fun f => f.2 == n) then some (fs.eraseP fun f => f.2 == n) else none
theorem dropAll_app : ∀ (a b : List Int) (fs : List (Int × Int)), dropAll (a ++ b) fs = (dropAll a fs).bind (dropAll b)
 | [], b, fs => rfl
 | n :: r, b, fs => by
  simp only [List.cons_append, dropAll]
  split
  ·exact dropAll_app r b _
  ·rfl
theorem dropAll_take {ds : List Int} {k : Nat} (h : k < ds.length) (fs : List (Int × Int)) : dropAll (ds.take (k + 1)) fs = (dropAll (ds.take k) fs).bind (drop1 ds[k]) := by
 rw [List.take_succ_eq_append_getElem h, dropAll_app]
 congr 1
theorem dropAll_stop {ds : List Int} {k : Nat} {fs : List (Int × Int)} (h : dropAll (ds.take k) fs = none) : dropAll ds fs = none := by
 rw [← List.take_append_drop k ds, dropAll_app, h]
 rfl
theorem eraseP_at {P : Int × Int → Bool} {fs : List (Int × Int)} {i : Nat} (hi : i < fs.length) (h : fs.findIdx P = i) : fs.eraseP P = fs.eraseIdx i := by
 rw [List.eraseP_eq_eraseIdx]
 have : fs.findIdx? P = some i := by
  rw [List.findIdx?_eq_some_iff_findIdx_eq]
  exact ⟨hi, h⟩
 rw [this]
theorem app_none {v : Vw} {e : Ed} (h : dropAll e.drop v.files = none) : v.app e = none := by unfold Vw.app; rw [h]
def Vw.mix (v : Vw) (e : Ed) (fs : List (Int × Int)) : Vw := ⟨if e.log = 0 then v.log else e.log, fs ++ e.add, orElse e.floor v.floor, orElse e.cert v.cert, orElse e.at_ v.at_, orElse e.lease v.lease⟩
theorem app_some {v : Vw} {e : Ed} {fs : List (Int × Int)} (h : dropAll e.drop v.files = some fs) : v.app e = if (v.mix e fs).ok = true then some (v.mix e fs) else none := by unfold Vw.app; rw [h]; rfl
theorem own_fresh {base B : Nat} {w : World} {A : Option Addr} {n c : Nat} {fs : List (Int × Int)} (h : w.ownsRow base 166 2 (.slice A n c) n (fcells fs)) (hB : B ≤ base) : Fresh B w A n c fs := by
 obtain ⟨_, _, hsl, hnc, hcm, hbs⟩ := own_form h
 injection hsl with h1 h2 h3
 subst h1 h3
 exact ⟨Row.own h, hnc, hcm, fun a ha => Nat.le_trans hB (hbs a ha).1⟩
theorem Fresh.below {B n c : Nat} {w w' : World} {A : Option Addr} {fs : List (Int × Int)} (h : Fresh B w A n c fs) (hb : Below w.heap.size w w') : Fresh B w' A n c fs := ⟨(h.row.below hb).up hb.size, h.nc, h.cm, h.low⟩
theorem Fresh.chg {B n c : Nat} {w w' : World} {A : Option Addr} {fs : List (Int × Int)} {G : List Nat} (h : Fresh B w A n c fs) (k : Chg G w w') (hg : ∀ a, A = some a → a.block ∉ G) : Fresh B w' A n c fs := ⟨(k.row h.row (Nat.le_refl _) hg).up k.size, h.nc, h.cm, h.low⟩
theorem clip_any (A : Option Addr) (n c : Nat) (w : World) (hn : n ≤ c) (_hc : c ≤ maxLen) : Calls Tryz.prog 240 #[.slice A n c] w fun e w' => e = .returned (.slice A n n) ∧ w = w' := by
 go_enter Tryz.func240, Tryz.ntmps240
 go_wp2
 go_ret
 exact ⟨rfl, rfl⟩
theorem apply_gen (v : Vw) (A0 : Option Addr) (n0 c0 : Nat) (e : Ed) (D : Option Addr) (m d : Nat) (A2 : Option Addr) (n2 c2 : Nat) (w : World) (hn0 : n0 ≤ 100000) (hm : m ≤ 100000) (hn2 : n2 ≤ 100000)
  (hrv : Row w.heap.size w A0 n0 2 (fcells v.files)) (hrd : Row w.heap.size w D m 1 (icells e.drop)) (hra : Row w.heap.size w A2 n2 2 (fcells e.add)) :
  Calls Tryz.prog 192 #[v.val A0 n0 c0, e.val D m d A2 n2 c2] w (ApPost w (v.app e)) := by
 obtain ⟨i0, hi0, hz0, hz1, hz2⟩ := info_parts info_file
 have hap1 := fun h => app_none (v := v) (e := e) h
 have hap2 := fun fs h => app_some (v := v) (e := e) (fs := fs) h
 generalize hAP : v.app e = AP at *
 have HAP1 := Lib.hid hap1
 have HAP2 := Lib.hid hap2
 clear hap1 hap2 hAP
 have hdt := fun (k : Nat) (h : k < e.drop.length) => dropAll_take h v.files
 have hds := fun (k : Nat) h => dropAll_stop (ds := e.drop) (k := k) (fs := v.files) h
 have hdl := hrd.ilen
 have hvl := hrv.flen
 have hal := hra.flen
 have HDT := Lib.hid hdt
 have HDS := Lib.hid hds
 clear hdt hds
 unfold Vw.mix at HAP2
 unfold Vw.val Ed.val
 obtain ⟨g, fs0, f, c, a, l⟩ := v
 obtain ⟨ds, ad, G, F, C, AA, L⟩ := e
 simp only at hrv hrd hra HAP1 HAP2 hdl hvl hal HDT HDS ⊢
 go_enter Tryz.func192, Tryz.ntmps192
 go_wp2_with (at_builtin; refine stop_in ?_)
 have hbw : Below w.heap.size w ((((w.alloc (.cells #[.int .i64 g, .slice A0 n0 c0, .int .u64 (f : Int), .int .u64 (c : Int), .int .u64 (a : Int), .int .u64 (l : Int)] 134)).alloc (.cells #[.slice D m d, .slice A2 n2 c2, .int .i64 G, .int .u64 (F : Int), .int .u64 (C : Int), .int .u64 (AA : Int), .int .u64 (L : Int)] 163)).alloc (.cells #[.int .i64 0, .slice none 0 0, .int .u64 0, .int .u64 0, .int .u64 0, .int .u64 0] 134)).alloc (.cells #[.int .i64 g, .slice A0 n0 c0, .int .u64 (f : Int), .int .u64 (c : Int), .int .u64 (a : Int), .int .u64 (l : Int)] 134)) := ((((Below.refl _ _).alloc (Nat.le_refl _) _).alloc (by simp) _).alloc (by simp; omega) _).alloc (by simp; omega) _
 have hE := (((BoxO.new (w.alloc (.cells #[.int .i64 g, .slice A0 n0 c0, .int .u64 (f : Int), .int .u64 (c : Int), .int .u64 (a : Int), .int .u64 (l : Int)] 134)) #[.slice D m d, .slice A2 n2 c2, .int .i64 G, .int .u64 (F : Int), .int .u64 (C : Int), .int .u64 (AA : Int), .int .u64 (L : Int)] 163).alloc (.cells #[.int .i64 0, .slice none 0 0, .int .u64 0, .int .u64 0, .int .u64 0, .int .u64 0] 134)).alloc (.cells #[.int .i64 g, .slice A0 n0 c0, .int .u64 (f : Int), .int .u64 (c : Int), .int .u64 (a : Int), .int .u64 (l : Int)] 134))
 have hR := ((BoxO.new ((w.alloc (.cells #[.int .i64 g, .slice A0 n0 c0, .int .u64 (f : Int), .int .u64 (c : Int), .int .u64 (a : Int), .int .u64 (l : Int)] 134)).alloc (.cells #[.slice D m d, .slice A2 n2 c2, .int .i64 G, .int .u64 (F : Int), .int .u64 (C : Int), .int .u64 (AA : Int), .int .u64 (L : Int)] 163)) #[.int .i64 0, .slice none 0 0, .int .u64 0, .int .u64 0, .int .u64 0, .int .u64 0] 134).alloc (.cells #[.int .i64 g, .slice A0 n0 c0, .int .u64 (f : Int), .int .u64 (c : Int), .int .u64 (a : Int), .int .u64 (l : Int)] 134))
 have hO := BoxO.new (((w.alloc (.cells #[.int .i64 g, .slice A0 n0 c0, .int .u64 (f : Int), .int .u64 (c : Int), .int .u64 (a : Int), .int .u64 (l : Int)] 134)).alloc (.cells #[.slice D m d, .slice A2 n2 c2, .int .i64 G, .int .u64 (F : Int), .int .u64 (C : Int), .int .u64 (AA : Int), .int .u64 (L : Int)] 163)).alloc (.cells #[.int .i64 0, .slice none 0 0, .int .u64 0, .int .u64 0, .int .u64 0, .int .u64 0] 134)) #[.int .i64 g, .slice A0 n0 c0, .int .u64 (f : Int), .int .u64 (c : Int), .int .u64 (a : Int), .int .u64 (l : Int)] 134
 simp only [World.size_alloc] at hE hR hO
 have hsz : ((((w.alloc (.cells #[.int .i64 g, .slice A0 n0 c0, .int .u64 (f : Int), .int .u64 (c : Int), .int .u64 (a : Int), .int .u64 (l : Int)] 134)).alloc (.cells #[.slice D m d, .slice A2 n2 c2, .int .i64 G, .int .u64 (F : Int), .int .u64 (C : Int), .int .u64 (AA : Int), .int .u64 (L : Int)] 163)).alloc (.cells #[.int .i64 0, .slice none 0 0, .int .u64 0, .int .u64 0, .int .u64 0, .int .u64 0] 134)).alloc (.cells #[.int .i64 g, .slice A0 n0 c0, .int .u64 (f : Int), .int .u64 (c : Int), .int .u64 (a : Int), .int .u64 (l : Int)] 134)).heap.size = w.heap.size + 1 + 1 + 1 + 1 := by simp
 refine stop_out (wpList_app0 rfl _ (.tmp 14) _ rfl (w.heap.size + 1 + 1 + 1 + 1) 166 i0 _ 2 16 Tryz.underlying132 hi0 hz0 hz1 hz2 rfl (by omega) ((((w.alloc (.cells #[.int .i64 g, .slice A0 n0 c0, .int .u64 (f : Int), .int .u64 (c : Int), .int .u64 (a : Int), .int .u64 (l : Int)] 134)).alloc (.cells #[.slice D m d, .slice A2 n2 c2, .int .i64 G, .int .u64 (F : Int), .int .u64 (C : Int), .int .u64 (AA : Int), .int .u64 (L : Int)] 163)).alloc (.cells #[.int .i64 0, .slice none 0 0, .int .u64 0, .int .u64 0, .int .u64 0, .int .u64 0] 134)).alloc (.cells #[.int .i64 g, .slice A0 n0 c0, .int .u64 (f : Int), .int .u64 (c : Int), .int .u64 (a : Int), .int .u64 (l : Int)] 134)) (Below.refl _ _) (by rw [hsz]; exact Nat.le_refl _) rfl w.heap.size A0 n0 c0 (fcells fs0) rfl (hrv.below hbw) (fcells_one _) (by unfold maxLen; omega) (by omega) ?_)
 intro A1 k1 w1 ho1 hb1 hg1 hk1 hm1
 have hbl1 : Below w.heap.size w w1 := hbw.trans (hb1.mono (by omega))
 have hE1 : BoxO w1 _ _ _ := (hb1.block (w.heap.size + 1) (by omega)).trans hE
 have hR1 : BoxO w1 _ _ _ := (hb1.block (w.heap.size + 1 + 1) (by omega)).trans hR
 have hO1 : BoxO w1 _ _ _ := (hb1.block (w.heap.size + 1 + 1 + 1) (by omega)).trans hO
 clear hbw hE hR hO hsz hb1 hg1
 have q0 := hO1.cell 1
 have z0 := hO1.free 1
 have p0 := hE1.cell 0
 simp only [gE0, gE1] at q0 p0
 have hlt1 := hO1.lt
 have hO2 := hO1.store 1 (.slice A1 n0 k1)
 have hch := chg_set w1 ⟨w.heap.size + 1 + 1 + 1, 1, none⟩ (.slice A1 n0 k1)
 have hE2 := hE1.chg hch (by simp)
 have hR2 := hR1.chg hch (by simp)
 have hbl2 := hbl1.setCell (p := ⟨w.heap.size + 1 + 1 + 1, 1, none⟩) (by simp; omega) (.slice A1 n0 k1)
 have ho2 := own_chg ho1 hch (fun g hg h => by
  have := (ho1.lt g hg).1
  simp at h
  omega)
 simp only [List.set_cons_succ, List.set_cons_zero] at hO2
 clear hO1 hE1 hR1 hbl1 ho1 hch
 go_wp2_with fail
 clear q0 z0 p0
 generalize w1.setCell ⟨w.heap.size + 1 + 1 + 1, 1, none⟩ (.slice A1 n0 k1) = W at *
 go_loopw [20] (fun i wr => ∃ (k N cp : Nat) (A' : Option Addr) (fs : List (Int × Int)), k ≤ m ∧ i = .int .i64 (k : Int) ∧ Hid (dropAll (ds.take k) fs0 = some fs) ∧ N ≤ n0 ∧ BoxO wr 134 (w.heap.size + 1 + 1 + 1) [.int .i64 g, .slice A' N cp, .int .u64 (f : Int), .int .u64 (c : Int), .int .u64 (a : Int), .int .u64 (l : Int)] ∧ wr.ownsRow (w.heap.size + 1 + 1 + 1 + 1) 166 2 (.slice A' N cp) N (fcells fs) ∧ BoxO wr 163 (w.heap.size + 1) [.slice D m d, .slice A2 n2 c2, .int .i64 G, .int .u64 (F : Int), .int .u64 (C : Int), .int .u64 (AA : Int), .int .u64 (L : Int)] ∧ BoxO wr 134 (w.heap.size + 1 + 1) [.int .i64 0, .slice none 0 0, .int .u64 0, .int .u64 0, .int .u64 0, .int .u64 0] ∧ Below w.heap.size w wr) (fun i _ => m - (intOf i).toNat)
 case atStart => exact ⟨0, n0, k1, A1, fs0, Nat.zero_le _, rfl, Lib.hid rfl, Nat.le_refl _, hO2, ho2, hE2, hR2, hbl2⟩
 case round =>
  obtain ⟨k, N, cp, A', fs, hk, rfl, hdr, hN, hO, ho, hE, hR, hbl⟩ := hrel
  clear hO2 hE2 hR2 hbl2 ho2
  obtain ⟨_, _, hsl, hNc, hcm, hbs⟩ := own_form ho
  injection hsl with hsl1 hsl2 hsl3
  subst hsl1 hsl3
  clear hsl2
  have q1 := hO.cell 1
  have z1 := hO.free 1
  simp only [gE0, gE1] at q1
  have hltO := hO.lt
  by_cases hlt : k < m
  ·obtain ⟨da, hl, rfl, hdb, hdc⟩ := (hrd.below hbl).int_ hlt
   have hd1 := HDT.out k hl
   rw [hdr.out] at hd1
   have hsp := HDS.out (k + 1)
   generalize ds[k] = x at *
   have HD1 : Hid (dropAll (ds.take (k + 1)) fs0 = drop1 x fs) := Lib.hid hd1
   have HSP := Lib.hid hsp
   clear hd1 hsp hdr hl
   have hfl := (Row.own ho).flen
   have hrA := (Row.own ho).alloc (Nat.le_refl _) (.cells #[.int .i64 x] 3)
   have hXc : (wr.alloc (.cells #[.int .i64 x] 3)).cell? ⟨wr.heap.size, 0, none⟩ = some (.int .i64 x) := (BoxO.new wr #[.int .i64 x] 3).cell 0
   have hbA := (Below.refl wr.heap.size wr).alloc (Nat.le_refl _) (.cells #[.int .i64 x] 3)
   have hfx := fidx_cap 238 (fun _ _ => rfl) ⟨wr.heap.size, 0, none⟩ (fun f => f.2 == x) A' N cp fs (wr.alloc (.cells #[.int .i64 x] 3)) (by omega) (hrA.up (by simp)) (fun f w2 hb2 => apc_any f ⟨wr.heap.size, 0, none⟩ x w2 ((hb2.cell (p := ⟨wr.heap.size, 0, none⟩) (by simp)).trans hXc))
   have hO' := hO.alloc (.cells #[.int .i64 x] 3)
   have hE' := hE.alloc (.cells #[.int .i64 x] 3)
   have hR' := hR.alloc (.cells #[.int .i64 x] 3)
   have ho' := ho.alloc (.cells #[.int .i64 x] 3)
   have hbl' := later_ hbl hbA
   clear hrA hXc hbA hO hE hR ho hbl
   cases hany : fs.any (fun f => f.2 == x) with
   | false =>
    rw [fidx_none hany] at hfx
    have hno : AP = none := HAP1.out (HSP.out (by rw [HD1.out, drop1, hany]; rfl))
    have HNO := Lib.hid hno
    clear hno hany
    go_wp2_with fail
    refine hfx.mono ?_
    rintro e w2 ⟨rfl, hb2⟩
    have hRz := hR'.below hb2
    have hbz := later_ hbl' hb2
    have r0 := hRz.cell 0
    have r1 := hRz.cell 1
    have r2 := hRz.cell 2
    have r3 := hRz.cell 3
    have r4 := hRz.cell 4
    have r5 := hRz.cell 5
    have y0 := hRz.free 0
    have y1 := hRz.free 1
    have y2 := hRz.free 2
    have y3 := hRz.free 3
    have y4 := hRz.free 4
    have y5 := hRz.free 5
    simp only [gE0, gE1] at r0 r1 r2 r3 r4 r5
    clear hfx hb2 hO' hE' hR' ho' hbl' q1 z1 hRz
    go_wp2_with fail
    refine bodyPost_ret (v := .tuple #[.agg #[.int .i64 0, .slice none 0 0, .int .u64 0, .int .u64 0, .int .u64 0, .int .u64 0], .bool false]) (by simp [results, go_sem, *]) rfl ?_
    unfold ApPost
    rw [HNO.out]
    exact ⟨(((((hbz.setCell (by simp; omega) _).setCell (by simp; omega) _).setCell (by simp; omega) _).setCell (by simp; omega) _).setCell (by simp; omega) _).setCell (by simp; omega) _, rfl⟩
   | true =>
    obtain ⟨i, hfi, hil, hpi, hix⟩ := fidx_lt hany
    rw [hfi] at hfx
    have hiN : i < N := by omega
    have her := eraseP_at hil hix
    have hd2 : dropAll (ds.take (k + 1)) fs0 = some (fs.eraseIdx i) := by rw [HD1.out, drop1, hany, if_pos rfl, her]
    have HD2 := Lib.hid hd2
    clear hfi hpi hix her hd2 hany HD1 HSP
    go_wp2_with fail
    refine hfx.mono ?_
    rintro e w2 ⟨rfl, hb2⟩
    have hO3 := hO'.below hb2
    have hE3 := hE'.below hb2
    have hR3 := hR'.below hb2
    have ho3 := own_below ho' hb2
    have hbl3 := later_ hbl' hb2
    clear hfx hb2 hO' hE' hR' ho' hbl' q1 z1
    rcases ho3.2 with ⟨hv, h0⟩ | ⟨gg, cap, cur, hv, hgb, hgh, _⟩
    ·omega
    injection hv with hv1 hv2 hv3
    subst hv1 hv3
    clear hv2
    have hggl : gg < w2.heap.size := (Array.getElem?_eq_some_iff.1 hgh).1
    have q1 := hO3.cell 1
    simp only [gE0, gE1] at q1
    have hdel := fdel_any (w.heap.size + 1 + 1 + 1 + 1) gg N cp i fs w2 ho3 hiN
    clear hgh ho3
    go_wp2_with fail
    refine hdel.mono ?_
    rintro e w3 ⟨rfl, ho4, hc4⟩
    have hO4 := hO3.chg hc4 (by simp; omega)
    have hE4 := hE3.chg hc4 (by simp; omega)
    have hR4 := hR3.chg hc4 (by simp; omega)
    have hbl4 := hbl3.trans (hc4.below hbl3.size (by intro q hq; simp at hq; omega))
    clear hdel hO3 hE3 hR3 hbl3 hc4 q1
    have q1 := hO4.cell 1
    have z1 := hO4.free 1
    simp only [gE0, gE1] at q1
    have hch := chg_set w3 ⟨w.heap.size + 1 + 1 + 1, 1, none⟩ (.slice (some ⟨gg, 0, none⟩) (N - 1) cp)
    have hO5 := hO4.store 1 (.slice (some ⟨gg, 0, none⟩) (N - 1) cp)
    simp only [List.set_cons_succ, List.set_cons_zero] at hO5
    have hE5 := hE4.chg hch (by simp)
    have hR5 := hR4.chg hch (by simp)
    have ho5 := own_chg ho4 hch (fun q hq h => by
     have := (ho4.lt q hq).1
     simp at h
     omega)
    have hbl5 := hbl4.setCell (p := ⟨w.heap.size + 1 + 1 + 1, 1, none⟩) (by simp; omega) (.slice (some ⟨gg, 0, none⟩) (N - 1) cp)
    clear hO4 hE4 hR4 ho4 hbl4 hch
    go_wp2_with fail
    go_roundw
    case rel => exact ⟨k + 1, N - 1, cp, some ⟨gg, 0, none⟩, fs.eraseIdx i, by omega, by go_num, HD2, by omega, hO5, ho5, hE5, hR5, hbl5⟩
    case measure => simp [intOf]; omega
  ·obtain rfl : m = k := by omega
   have hdall : dropAll ds fs0 = some fs := by have h := hdr.out; rwa [List.take_of_length_le (by omega)] at h
   have hap := HAP2.out fs hdall
   have HAP := Lib.hid hap
   clear hdall hap hdr HAP1 HAP2 HDT HDS
   have p1 := hE.cell 1
   simp only [gE0, gE1] at p1
   go_wp2_with (at_builtin; refine stop_in ?_)
   refine stop_out (wpList_app rfl (.tmp 40) (.tmp 42) _ rfl (w.heap.size + 1 + 1 + 1 + 1) 166 i0 _ 2 16 Tryz.underlying132 hi0 hz0 hz1 hz2 rfl (by omega) wr (Below.refl _ _) (by omega) _ N (fcells fs) rfl ho w.heap.size A2 n2 c2 (fcells ad) rfl (hra.below hbl) (fcells_one _) (N + n2) (fcells (fs ++ ad)) rfl (fcells_app _ _).symm (by unfold maxLen; omega) (by omega) ?_)
   intro A3 c3 w3 ho3 hb3 hg3 hc3 hm3
   have hbl3 := hbl.trans (hb3.mono (by omega))
   have hE3 : BoxO w3 _ _ _ := (hb3.block _ (by omega)).trans hE
   have hR3 : BoxO w3 _ _ _ := (hb3.block _ (by omega)).trans hR
   have hO3 : BoxO w3 _ _ _ := (hb3.block _ (by omega)).trans hO
   have hF3 := own_fresh ho3 (Nat.le_refl _)
   clear ho hE hR hO hb3 hg3 q1 z1 p1 ho3
   go_wp2_with fail
   refine (clip_any A3 (N + n2) c3 w3 hc3 hm3).mono ?_
   rintro e w4 ⟨rfl, rfl⟩
   have q1 := hO3.cell 1
   have z1 := hO3.free 1
   simp only [gE0, gE1] at q1
   have hch := chg_set w3 ⟨w.heap.size + 1 + 1 + 1, 1, none⟩ (.slice A3 (N + n2) (N + n2))
   have hO5 := hO3.store 1 (.slice A3 (N + n2) (N + n2))
   simp only [List.set_cons_succ, List.set_cons_zero] at hO5
   have hE5 := hE3.chg hch (by simp)
   have hR5 := hR3.chg hch (by simp)
   have hF5 := hF3.chg hch (fun q hq h => by
    have := hF3.low q hq
    simp at h
    omega)
   have hbl5 := hbl3.setCell (p := ⟨w.heap.size + 1 + 1 + 1, 1, none⟩) (by simp; omega) (.slice A3 (N + n2) (N + n2))
   clear hO3 hE3 hR3 hbl3 hch hF3
   have p2 := hE5.cell 2
   simp only [gE0, gE1] at p2
   obtain ⟨g', hg'⟩ : ∃ g', g' = (if G = 0 then g else G) := ⟨_, rfl⟩
   have HG := Lib.hid hg'
   clear hg'
   go_upto_if 48 with (fail)
   generalize w3.setCell ⟨w.heap.size + 1 + 1 + 1, 1, none⟩ (.slice A3 (N + n2) (N + n2)) = W5 at *
   clear q1 z1 hNc hcm hbs
   go_cut [] (fun wx => BoxO wx 134 (w.heap.size + 1 + 1 + 1) [.int .i64 g', .slice A3 (N + n2) (N + n2), .int .u64 (f : Int), .int .u64 (c : Int), .int .u64 (a : Int), .int .u64 (l : Int)] ∧ BoxO wx 163 (w.heap.size + 1) [.slice D m d, .slice A2 n2 c2, .int .i64 G, .int .u64 (F : Int), .int .u64 (C : Int), .int .u64 (AA : Int), .int .u64 (L : Int)] ∧ BoxO wx 134 (w.heap.size + 1 + 1) [.int .i64 0, .slice none 0 0, .int .u64 0, .int .u64 0, .int .u64 0, .int .u64 0] ∧ Fresh (w.heap.size + 1 + 1 + 1 + 1) wx A3 (N + n2) c3 (fs ++ ad) ∧ Below w.heap.size w wx)
   case first =>
    by_cases hG : G = 0
    ·have e0 : (G != 0) = false := by simp [hG]
     have e1 : g' = g := by rw [HG.out, if_pos hG]
     subst e1
     subst hG
     clear HG e0
     go_wp2_with fail
     go_meet
     exact ⟨hO5, hE5, hR5, hF5, hbl5⟩
    ·have e0 : (G != 0) = true := by simpa using hG
     have e1 : g' = G := by rw [HG.out, if_neg hG]
     subst e1
     have q0 := hO5.cell 0
     have z0 := hO5.free 0
     simp only [gE0] at q0
     have hch := chg_set W5 ⟨w.heap.size + 1 + 1 + 1, 0, none⟩ (.int .i64 g')
     have hO6 := hO5.store 0 (.int .i64 g')
     simp only [List.set_cons_zero] at hO6
     have hE6 := hE5.chg hch (by simp)
     have hR6 := hR5.chg hch (by simp)
     have hF6 := hF5.chg hch (fun q hq h => by
      have := hF5.low q hq
      simp at h
      omega)
     have hbl6 := hbl5.setCell (p := ⟨w.heap.size + 1 + 1 + 1, 0, none⟩) (by simp; omega) (.int .i64 g')
     clear HG hG hch hO5 hE5 hR5 hF5 hbl5
     go_wp2_with fail
     go_meet
     exact ⟨hO6, hE6, hR6, hF6, hbl6⟩
   case rest =>
    obtain ⟨hO6, hE6, hR6, hF6, hbl6⟩ := hcut
    clear hO5 hE5 hR5 hF5 hbl5 p2
    have p3 := hE6.cell 3
    have p4 := hE6.cell 4
    have p5 := hE6.cell 5
    have p6 := hE6.cell 6
    simp only [gE0, gE1] at p3 p4 p5 p6
    have hlt6 := hO6.lt
    have hQ := BoxO.new wc #[.int .u64 (F : Int), .pointer (some ⟨w.heap.size + 1 + 1 + 1, 2, none⟩), .int .u64 (C : Int), .pointer (some ⟨w.heap.size + 1 + 1 + 1, 3, none⟩), .int .u64 (AA : Int), .pointer (some ⟨w.heap.size + 1 + 1 + 1, 4, none⟩), .int .u64 (L : Int), .pointer (some ⟨w.heap.size + 1 + 1 + 1, 5, none⟩)] 318
    have hO7 := hO6.alloc (.cells #[.int .u64 (F : Int), .pointer (some ⟨w.heap.size + 1 + 1 + 1, 2, none⟩), .int .u64 (C : Int), .pointer (some ⟨w.heap.size + 1 + 1 + 1, 3, none⟩), .int .u64 (AA : Int), .pointer (some ⟨w.heap.size + 1 + 1 + 1, 4, none⟩), .int .u64 (L : Int), .pointer (some ⟨w.heap.size + 1 + 1 + 1, 5, none⟩)] 318)
    have hR7 := hR6.alloc (.cells #[.int .u64 (F : Int), .pointer (some ⟨w.heap.size + 1 + 1 + 1, 2, none⟩), .int .u64 (C : Int), .pointer (some ⟨w.heap.size + 1 + 1 + 1, 3, none⟩), .int .u64 (AA : Int), .pointer (some ⟨w.heap.size + 1 + 1 + 1, 4, none⟩), .int .u64 (L : Int), .pointer (some ⟨w.heap.size + 1 + 1 + 1, 5, none⟩)] 318)
    have hF7 := hF6.below ((Below.refl wc.heap.size wc).alloc (Nat.le_refl _) (.cells #[.int .u64 (F : Int), .pointer (some ⟨w.heap.size + 1 + 1 + 1, 2, none⟩), .int .u64 (C : Int), .pointer (some ⟨w.heap.size + 1 + 1 + 1, 3, none⟩), .int .u64 (AA : Int), .pointer (some ⟨w.heap.size + 1 + 1 + 1, 4, none⟩), .int .u64 (L : Int), .pointer (some ⟨w.heap.size + 1 + 1 + 1, 5, none⟩)] 318))
    have hbl7 := hbl6.alloc hbl6.size (.cells #[.int .u64 (F : Int), .pointer (some ⟨w.heap.size + 1 + 1 + 1, 2, none⟩), .int .u64 (C : Int), .pointer (some ⟨w.heap.size + 1 + 1 + 1, 3, none⟩), .int .u64 (AA : Int), .pointer (some ⟨w.heap.size + 1 + 1 + 1, 4, none⟩), .int .u64 (L : Int), .pointer (some ⟨w.heap.size + 1 + 1 + 1, 5, none⟩)] 318)
    clear hO6 hR6 hF6 hbl6
    go_wp2_with fail
    clear p3 p4 p5 p6 hE6
    obtain ⟨qb, hqb⟩ : ∃ qb, qb = wc.heap.size := ⟨_, rfl⟩
    have hqo : w.heap.size + 1 + 1 + 1 < qb := by omega
    simp only [← hqb] at hQ ⊢
    change Code.wp _ _ _ _ (wc.alloc (.cells #[.int .u64 (F : Int), .pointer (some ⟨w.heap.size + 1 + 1 + 1, 2, none⟩), .int .u64 (C : Int), .pointer (some ⟨w.heap.size + 1 + 1 + 1, 3, none⟩), .int .u64 (AA : Int), .pointer (some ⟨w.heap.size + 1 + 1 + 1, 4, none⟩), .int .u64 (L : Int), .pointer (some ⟨w.heap.size + 1 + 1 + 1, 5, none⟩)] 318))
    generalize wc.alloc (.cells #[.int .u64 (F : Int), .pointer (some ⟨w.heap.size + 1 + 1 + 1, 2, none⟩), .int .u64 (C : Int), .pointer (some ⟨w.heap.size + 1 + 1 + 1, 3, none⟩), .int .u64 (AA : Int), .pointer (some ⟨w.heap.size + 1 + 1 + 1, 4, none⟩), .int .u64 (L : Int), .pointer (some ⟨w.heap.size + 1 + 1 + 1, 5, none⟩)] 318) = V at *
    have HQB := Lib.hid hqb
    clear hqb hlt6
    obtain ⟨f', hf'⟩ : ∃ x, orElse F f = x := ⟨_, rfl⟩
    obtain ⟨c', hc'⟩ : ∃ x, orElse C c = x := ⟨_, rfl⟩
    obtain ⟨a', ha'⟩ : ∃ x, orElse AA a = x := ⟨_, rfl⟩
    obtain ⟨l', hl'⟩ : ∃ x, orElse L l = x := ⟨_, rfl⟩
    have hap := HAP.out
    rw [hf', hc', ha', hl', ← HG.out] at hap
    have HAP2 := Lib.hid hap
    have HF := Lib.hid hf'
    have HC := Lib.hid hc'
    have HA := Lib.hid ha'
    have HL := Lib.hid hl'
    clear hap HAP hf' hc' ha' hl' HG
    go_loopw [70] (fun i wr => ∃ k x0 x1 x2 x3 : Nat, k ≤ 4 ∧ i = .int .i64 (k : Int) ∧ BoxO wr 134 (w.heap.size + 1 + 1 + 1) [.int .i64 g', .slice A3 (N + n2) (N + n2), .int .u64 (x0 : Int), .int .u64 (x1 : Int), .int .u64 (x2 : Int), .int .u64 (x3 : Int)] ∧
     Hid (x0 = (if 0 < k then f' else f) ∧ x1 = (if 1 < k then c' else c) ∧ x2 = (if 2 < k then a' else a) ∧ x3 = (if 3 < k then l' else l)) ∧ Chg [w.heap.size + 1 + 1 + 1] V wr) (fun i _ => 4 - (intOf i).toNat)
    case atStart => exact ⟨0, f, c, a, l, by omega, rfl, hO7, Lib.hid ⟨rfl, rfl, rfl, rfl⟩, Chg.refl _ _⟩
    case round =>
     obtain ⟨k, x0, x1, x2, x3, hk, rfl, hBo, hx, hchg⟩ := hrel
     have hQr := hQ.chg hchg (by simp; omega)
     have hRr := hR7.chg hchg (by simp)
     have hlt := hBo.lt
     have o0 := hBo.cell 0
     have z0 := hBo.free 0
     have o1 := hBo.cell 1
     have z1 := hBo.free 1
     have o2 := hBo.cell 2
     have z2 := hBo.free 2
     have o3 := hBo.cell 3
     have z3 := hBo.free 3
     have o4 := hBo.cell 4
     have z4 := hBo.free 4
     have o5 := hBo.cell 5
     have z5 := hBo.free 5
     have p0 := hQr.cell 0
     have p1 := hQr.cell 1
     have p2 := hQr.cell 2
     have p3 := hQr.cell 3
     have p4 := hQr.cell 4
     have p5 := hQr.cell 5
     have p6 := hQr.cell 6
     have p7 := hQr.cell 7
     simp only [gE0, gE1] at o0 o1 o2 o3 o4 o5 p0 p1 p2 p3 p4 p5 p6 p7
     rcases (by omega : k = 0 ∨ k = 1 ∨ k = 2 ∨ k = 3 ∨ k = 4) with rfl | rfl | rfl | rfl | rfl
     ·have he : orElse F f = f' := HF.out
      have hx' : x0 = (if 0 < 0 then f' else f) ∧ x1 = (if 1 < 0 then c' else c) ∧ x2 = (if 2 < 0 then a' else a) ∧ x3 = (if 3 < 0 then l' else l) := hx.out
      have HX := Lib.hid hx'
      by_cases hE : F = 0
      ·have e1 : ((F : Int) == 0) = true := by simp [hE]
       have e2 : (!((F : Int) == 0)) = false := by rw [e1]; rfl
       have hv : f = f' := by rw [← he, hE]; rfl
       have HV := Lib.hid hv
       clear hv he hE hx' hx
       go_wp2_with fail
       go_roundw
       case rel =>
        refine ⟨1, x0, x1, x2, x3, by omega, rfl, hBo.alloc _, Lib.hid ?_, hchg.alloc _⟩
        have hx' := HX.out
        have hv := HV.out
        simp at hx' ⊢
        simp [hx', hv]
       case measure => simp [intOf]
      ·have e1 : ((F : Int) == 0) = false := by simp; omega
       have e2 : (!((F : Int) == 0)) = true := by rw [e1]; rfl
       have hv : F = f' := by rw [← he, orElse_pos hE]
       have HV := Lib.hid hv
       clear hv he hE hx' hx
       go_wp2_with fail
       go_roundw
       case rel =>
        refine ⟨1, F, x1, x2, x3, by omega, rfl, (hBo.store 2 _).alloc _, Lib.hid ?_, (hchg.setCell _ (.inl (by simp))).alloc _⟩
        have hx' := HX.out
        have hv := HV.out
        simp at hx' ⊢
        simp [hx', hv]
       case measure => simp [intOf]
     ·have he : orElse C c = c' := HC.out
      have hx' : x0 = (if 0 < 1 then f' else f) ∧ x1 = (if 1 < 1 then c' else c) ∧ x2 = (if 2 < 1 then a' else a) ∧ x3 = (if 3 < 1 then l' else l) := hx.out
      have HX := Lib.hid hx'
      by_cases hE : C = 0
      ·have e1 : ((C : Int) == 0) = true := by simp [hE]
       have e2 : (!((C : Int) == 0)) = false := by rw [e1]; rfl
       have hv : c = c' := by rw [← he, hE]; rfl
       have HV := Lib.hid hv
       clear hv he hE hx' hx
       go_wp2_with fail
       go_roundw
       case rel =>
        refine ⟨2, x0, x1, x2, x3, by omega, rfl, hBo.alloc _, Lib.hid ?_, hchg.alloc _⟩
        have hx' := HX.out
        have hv := HV.out
        simp at hx' ⊢
        simp [hx', hv]
       case measure => simp [intOf]
      ·have e1 : ((C : Int) == 0) = false := by simp; omega
       have e2 : (!((C : Int) == 0)) = true := by rw [e1]; rfl
       have hv : C = c' := by rw [← he, orElse_pos hE]
       have HV := Lib.hid hv
       clear hv he hE hx' hx
       go_wp2_with fail
       go_roundw
       case rel =>
        refine ⟨2, x0, C, x2, x3, by omega, rfl, (hBo.store 3 _).alloc _, Lib.hid ?_, (hchg.setCell _ (.inl (by simp))).alloc _⟩
        have hx' := HX.out
        have hv := HV.out
        simp at hx' ⊢
        simp [hx', hv]
       case measure => simp [intOf]
     ·have he : orElse AA a = a' := HA.out
      have hx' : x0 = (if 0 < 2 then f' else f) ∧ x1 = (if 1 < 2 then c' else c) ∧ x2 = (if 2 < 2 then a' else a) ∧ x3 = (if 3 < 2 then l' else l) := hx.out
      have HX := Lib.hid hx'
      by_cases hE : AA = 0
      ·have e1 : ((AA : Int) == 0) = true := by simp [hE]
       have e2 : (!((AA : Int) == 0)) = false := by rw [e1]; rfl
       have hv : a = a' := by rw [← he, hE]; rfl
       have HV := Lib.hid hv
       clear hv he hE hx' hx
       go_wp2_with fail
       go_roundw
       case rel =>
        refine ⟨3, x0, x1, x2, x3, by omega, rfl, hBo.alloc _, Lib.hid ?_, hchg.alloc _⟩
        have hx' := HX.out
        have hv := HV.out
        simp at hx' ⊢
        simp [hx', hv]
       case measure => simp [intOf]
      ·have e1 : ((AA : Int) == 0) = false := by simp; omega
       have e2 : (!((AA : Int) == 0)) = true := by rw [e1]; rfl
       have hv : AA = a' := by rw [← he, orElse_pos hE]
       have HV := Lib.hid hv
       clear hv he hE hx' hx
       go_wp2_with fail
       go_roundw
       case rel =>
        refine ⟨3, x0, x1, AA, x3, by omega, rfl, (hBo.store 4 _).alloc _, Lib.hid ?_, (hchg.setCell _ (.inl (by simp))).alloc _⟩
        have hx' := HX.out
        have hv := HV.out
        simp at hx' ⊢
        simp [hx', hv]
       case measure => simp [intOf]
     ·have he : orElse L l = l' := HL.out
      have hx' : x0 = (if 0 < 3 then f' else f) ∧ x1 = (if 1 < 3 then c' else c) ∧ x2 = (if 2 < 3 then a' else a) ∧ x3 = (if 3 < 3 then l' else l) := hx.out
      have HX := Lib.hid hx'
      by_cases hE : L = 0
      ·have e1 : ((L : Int) == 0) = true := by simp [hE]
       have e2 : (!((L : Int) == 0)) = false := by rw [e1]; rfl
       have hv : l = l' := by rw [← he, hE]; rfl
       have HV := Lib.hid hv
       clear hv he hE hx' hx
       go_wp2_with fail
       go_roundw
       case rel =>
        refine ⟨4, x0, x1, x2, x3, by omega, rfl, hBo.alloc _, Lib.hid ?_, hchg.alloc _⟩
        have hx' := HX.out
        have hv := HV.out
        simp at hx' ⊢
        simp [hx', hv]
       case measure => simp [intOf]
      ·have e1 : ((L : Int) == 0) = false := by simp; omega
       have e2 : (!((L : Int) == 0)) = true := by rw [e1]; rfl
       have hv : L = l' := by rw [← he, orElse_pos hE]
       have HV := Lib.hid hv
       clear hv he hE hx' hx
       go_wp2_with fail
       go_roundw
       case rel =>
        refine ⟨4, x0, x1, x2, L, by omega, rfl, (hBo.store 5 _).alloc _, Lib.hid ?_, (hchg.setCell _ (.inl (by simp))).alloc _⟩
        have hx' := HX.out
        have hv := HV.out
        simp at hx' ⊢
        simp [hx', hv]
       case measure => simp [intOf]
     ·have hx' : x0 = (if 0 < 4 then f' else f) ∧ x1 = (if 1 < 4 then c' else c) ∧ x2 = (if 2 < 4 then a' else a) ∧ x3 = (if 3 < 4 then l' else l) := hx.out
      simp at hx'
      obtain ⟨rfl, rfl, rfl, rfl⟩ := hx'
      have hbr : Below w.heap.size w wr := hbl7.trans (hchg.below hbl7.size (by intro q hq; simp at hq; omega))
      have hFr := hF7.chg hchg (fun q hq h => by
       have := hF7.low q hq
       simp at h
       omega)
      have hok := ok_gen ⟨g', fs ++ ad, x0, x1, x2, x3⟩ A3 (N + n2) (N + n2) wr (by omega) (Nat.le_refl _) (Nat.le_trans hFr.nc hFr.cm) hFr.row
      unfold Vw.val at hok
      simp only at hok
      have hap := HAP2.out
      generalize hux : (⟨g', fs ++ ad, x0, x1, x2, x3⟩ : Vw) = u at *
      obtain ⟨ob, hob⟩ : ∃ ob, ob = u.ok := ⟨_, rfl⟩
      rw [← hob] at hok
      have HOB := Lib.hid hob
      have HUX := Lib.hid hux
      have HAP3 := Lib.hid hap
      clear hx hux hob hap HAP2
      clear p0 p1 p2 p3 p4 p5 p6 p7 z0 z1 z2 z3 z4 z5 hQr hQ hO7 hR7 hF7 hbl7 hchg
      go_wp2_with fail
      refine hok.mono ?_
      rintro e w2 ⟨rfl, hb2⟩
      have hB2 := hBo.below hb2
      have hR2 := hRr.below hb2
      have hF2 := hFr.below hb2
      have hb3 := later_ hbr hb2
      clear hok o0 o1 o2 o3 o4 o5 hBo hRr hFr hb2 hbr
      have o0 := hB2.cell 0
      have r0 := hR2.cell 0
      have z0 := hR2.free 0
      have o1 := hB2.cell 1
      have r1 := hR2.cell 1
      have z1 := hR2.free 1
      have o2 := hB2.cell 2
      have r2 := hR2.cell 2
      have z2 := hR2.free 2
      have o3 := hB2.cell 3
      have r3 := hR2.cell 3
      have z3 := hR2.free 3
      have o4 := hB2.cell 4
      have r4 := hR2.cell 4
      have z4 := hR2.free 4
      have o5 := hB2.cell 5
      have r5 := hR2.cell 5
      have z5 := hR2.free 5
      simp only [gE0, gE1] at o0 o1 o2 o3 o4 o5 r0 r1 r2 r3 r4 r5
      clear hB2 hR2
      cases ob with
      | false =>
       go_wp2_with fail
       refine bodyPost_ret (v := .tuple #[.agg #[.int .i64 0, .slice none 0 0, .int .u64 0, .int .u64 0, .int .u64 0, .int .u64 0], .bool false]) (by simp [results, go_sem, *]) rfl ?_
       unfold ApPost
       rw [HAP3.out, ← HOB.out, if_neg (by simp)]
       exact ⟨(((((hb3.setCell (by simp; omega) _).setCell (by simp; omega) _).setCell (by simp; omega) _).setCell (by simp; omega) _).setCell (by simp; omega) _).setCell (by simp; omega) _, rfl⟩
      | true =>
       go_wp2_with fail
       refine bodyPost_ret (v := .tuple #[.agg #[.int .i64 g', .slice A3 (N + n2) (N + n2), .int .u64 (x0 : Int), .int .u64 (x1 : Int), .int .u64 (x2 : Int), .int .u64 (x3 : Int)], .bool true]) (by simp [results, go_sem, *]) rfl ?_
       unfold ApPost
       rw [HAP3.out, ← HOB.out, if_pos rfl]
       refine ⟨(((((hb3.setCell (by simp; omega) _).setCell (by simp; omega) _).setCell (by simp; omega) _).setCell (by simp; omega) _).setCell (by simp; omega) _).setCell (by simp; omega) _, A3, N + n2, N + n2, by rw [← HUX.out]; rfl, ?_⟩
       have hne : ∀ q, A3 = some q → q.block ≠ w.heap.size + 1 + 1 := fun q hq => by
        have := hF2.low q hq
        omega
       have hch := (((((chg_set w2 ⟨w.heap.size + 1 + 1, 0, none⟩ (.int .i64 g')).setCell (p := ⟨w.heap.size + 1 + 1, 1, none⟩) (.slice A3 (N + n2) (N + n2)) (.inl (by simp))).setCell (p := ⟨w.heap.size + 1 + 1, 2, none⟩) (.int .u64 (x0 : Int)) (.inl (by simp))).setCell (p := ⟨w.heap.size + 1 + 1, 3, none⟩) (.int .u64 (x1 : Int)) (.inl (by simp))).setCell (p := ⟨w.heap.size + 1 + 1, 4, none⟩) (.int .u64 (x2 : Int)) (.inl (by simp))).setCell (p := ⟨w.heap.size + 1 + 1, 5, none⟩) (.int .u64 (x3 : Int)) (.inl (by simp))
       have hF9 := hF2.chg hch (fun q hq h => hne q hq (by simpa using h))
       rw [← HUX.out]
       exact ⟨hF9.row, Nat.le_refl _, Nat.le_trans hF9.nc hF9.cm, fun q hq => by have := hF9.low q hq; omega⟩
end
section
open Go Go.RowKit
theorem step_appG {P : Program} {ops : Array Oper} {o : Oper} {a : Act} {w : World} {K : Act → World → Prop} {Q : Exit → Act → World → Prop} {E : Prop} (hgd : o.guard = none) (s x : Operand) (t : TypeId)
  (ho : o.op = .call { callee := .builtin .append, args := #[s, x], argTypes := #[t, t] })
  (base : Nat) (e : TypeId) (i : TypeInfo) (z : Value) (size bytes : Nat) (ht : P.underlying t = some (.slice e)) (hi : P.info? e = some i) (hz : i.zero = some z)
  (hsize : i.size = size) (hby : i.bytes = bytes) (hzs : z.cells.size = size) (hsz : 0 < size) (hbase : base ≤ w.heap.size) (v : Value) (n : Nat) (xs : List Value) (hs : a.eval s = v) (hown : w.ownsRow base e size v n xs)
  (B : Nat) (A : Option Addr) (m c : Nat) (news : List Value) (hx : a.eval x = .slice A m c) (hr : Row B w A m size news) (h1 : ∀ u ∈ news, u.oneCell' = true)
  (N : Nat) (X : List Value) (hN : n + m = N) (hX : xs ++ news = X) (h63 : N ≤ maxLen) (hbytes : N * bytes ≤ 140737488355328)
  (h : ∀ A' c' w', w'.ownsRow base e size (.slice A' N c') N X → w.grownBy w' v.ownBlock → N ≤ c' → c' ≤ maxLen → ((Value.slice A' N c').ownBlock = v.ownBlock ∨ (Value.slice A' N c').ownBlock = some w.heap.size) → K (a.put o.dst (.slice A' N c')) w') :
  if Region.wanted o (yielded ops a.tmps) = true then Oper.wp P o a w K Q else E := by
 have hw : Region.wanted o (yielded ops a.tmps) = true := by simp [Region.wanted, hgd]
 rw [if_pos hw]
 subst hN
 subst hX
 obtain ⟨A', c', w', hrun, h3, h4, h5, h7, h6⟩ := run_appG (P := P) w base t o.type e i z size bytes ht hi hz hsize hby hzs hsz v n xs hown B A m c news hr h1 h63 hbytes hbase
 unfold Oper.wp execOp
 simp only [ho, resolve, invoke, builtin, Sem.run_bind, Sem.run_pure, Result.andThen_ok, List.map_toArray, List.map_cons, List.map_nil, hs, hx, hrun]
 exact h A' c' w' h3 h4 h5 h7 h6
theorem Fresh.base {B B' n c : Nat} {w : World} {A : Option Addr} {fs : List (Int × Int)} (h : Fresh B w A n c fs) (hb : B' ≤ B) : Fresh B' w A n c fs := ⟨h.row, h.nc, h.cm, fun a ha => Nat.le_trans hb (h.low a ha)⟩
theorem BoxO.grown {w w' : World} {e : TypeId} {g : Nat} {xs : List Value} (h : BoxO w e g xs) (hg : w.grownBy w' none) : BoxO w' e g xs := (hg.block g h.lt (by simp)).trans h
theorem own_gen (v : Vw) (A : Option Addr) (n c : Nat) (w : World) (hn : n ≤ 100000) (hr : Row w.heap.size w A n 2 (fcells v.files)) :
  Calls Tryz.prog 134 #[v.val A n c] w fun e w' => ∃ A' c', e = .returned (v.val A' n c') ∧ Fresh w.heap.size w' A' n c' v.files ∧ Below w.heap.size w w' := by
 obtain ⟨i0, hi0, hz0, hz1, hz2⟩ := info_parts info_file
 obtain ⟨g, fs, f, ce, a, l⟩ := v
 unfold Vw.val
 simp only at hr ⊢
 go_enter Tryz.func134, Tryz.ntmps134
 go_wp2_with (at_builtin; refine stop_in ?_)
 have hbw : Below w.heap.size w ((w.alloc (.cells #[.int .i64 g, .slice A n c, .int .u64 (f : Int), .int .u64 (ce : Int), .int .u64 (a : Int), .int .u64 (l : Int)] 134)).alloc (.cells #[.int .i64 0, .slice none 0 0, .int .u64 0, .int .u64 0, .int .u64 0, .int .u64 0] 134)) := ((Below.refl _ _).alloc (Nat.le_refl _) _).alloc (by simp) _
 have hP := (BoxO.new w #[.int .i64 g, .slice A n c, .int .u64 (f : Int), .int .u64 (ce : Int), .int .u64 (a : Int), .int .u64 (l : Int)] 134).alloc (.cells #[.int .i64 0, .slice none 0 0, .int .u64 0, .int .u64 0, .int .u64 0, .int .u64 0] 134)
 have hR := BoxO.new (w.alloc (.cells #[.int .i64 g, .slice A n c, .int .u64 (f : Int), .int .u64 (ce : Int), .int .u64 (a : Int), .int .u64 (l : Int)] 134)) #[.int .i64 0, .slice none 0 0, .int .u64 0, .int .u64 0, .int .u64 0, .int .u64 0] 134
 simp only [World.size_alloc] at hR
 have hsz : ((w.alloc (.cells #[.int .i64 g, .slice A n c, .int .u64 (f : Int), .int .u64 (ce : Int), .int .u64 (a : Int), .int .u64 (l : Int)] 134)).alloc (.cells #[.int .i64 0, .slice none 0 0, .int .u64 0, .int .u64 0, .int .u64 0, .int .u64 0] 134)).heap.size = w.heap.size + 1 + 1 := by simp
 refine stop_out (wpList_app0 rfl _ (.tmp 4) _ rfl (w.heap.size + 1 + 1) 166 i0 _ 2 16 Tryz.underlying132 hi0 hz0 hz1 hz2 rfl (by omega) ((w.alloc (.cells #[.int .i64 g, .slice A n c, .int .u64 (f : Int), .int .u64 (ce : Int), .int .u64 (a : Int), .int .u64 (l : Int)] 134)).alloc (.cells #[.int .i64 0, .slice none 0 0, .int .u64 0, .int .u64 0, .int .u64 0, .int .u64 0] 134)) (Below.refl _ _) (by rw [hsz]; exact Nat.le_refl _) rfl w.heap.size A n c (fcells fs) rfl (hr.below hbw) (fcells_one _) (by unfold maxLen; omega) (by omega) ?_)
 intro A1 k1 w1 ho1 hb1 hg1 hk1 hm1
 have hbl1 : Below w.heap.size w w1 := hbw.trans (hb1.mono (by omega))
 have hP1 : BoxO w1 _ _ _ := hP.grown hg1
 have hR1 : BoxO w1 _ _ _ := hR.grown hg1
 have hF := own_fresh ho1 (Nat.le_refl _)
 clear hbw hP hR hsz hb1 hg1 ho1
 have q0 := hP1.cell 0
 have q1 := hP1.cell 1
 have z1 := hP1.free 1
 have q2 := hP1.cell 2
 have q3 := hP1.cell 3
 have q4 := hP1.cell 4
 have q5 := hP1.cell 5
 have r0 := hR1.cell 0
 have y0 := hR1.free 0
 have r1 := hR1.cell 1
 have y1 := hR1.free 1
 have r2 := hR1.cell 2
 have y2 := hR1.free 2
 have r3 := hR1.cell 3
 have y3 := hR1.free 3
 have r4 := hR1.cell 4
 have y4 := hR1.free 4
 have r5 := hR1.cell 5
 have y5 := hR1.free 5
 simp only [gE0, gE1] at q0 q1 q2 q3 q4 q5 r0 r1 r2 r3 r4 r5
 clear hP1 hR1
 go_wp2_with fail
 refine bodyPost_ret (v := .agg #[.int .i64 g, .slice A1 n k1, .int .u64 (f : Int), .int .u64 (ce : Int), .int .u64 (a : Int), .int .u64 (l : Int)]) (by simp [results, go_sem, *]) rfl ⟨A1, k1, rfl, ?_, ?_⟩
 ·have hch : Chg [w.heap.size, w.heap.size + 1] w1 _ := (((((((Chg.refl _ w1).setCell (p := ⟨w.heap.size, 1, none⟩) (.slice A1 n k1) (.inl (by simp))).setCell (p := ⟨w.heap.size + 1, 0, none⟩) (.int .i64 g) (.inl (by simp))).setCell (p := ⟨w.heap.size + 1, 1, none⟩) (.slice A1 n k1) (.inl (by simp))).setCell (p := ⟨w.heap.size + 1, 2, none⟩) (.int .u64 (f : Int)) (.inl (by simp))).setCell (p := ⟨w.heap.size + 1, 3, none⟩) (.int .u64 (ce : Int)) (.inl (by simp))).setCell (p := ⟨w.heap.size + 1, 4, none⟩) (.int .u64 (a : Int)) (.inl (by simp))).setCell (p := ⟨w.heap.size + 1, 5, none⟩) (.int .u64 (l : Int)) (.inl (by simp))
  exact (hF.chg hch (fun q hq h => by
   have := hF.low q hq
   simp at h
   omega)).base (by omega)
 ·exact ((((((hbl1.setCell (by simp) _).setCell (by simp) _).setCell (by simp) _).setCell (by simp) _).setCell (by simp) _).setCell (by simp) _).setCell (by simp) _
theorem whole_gen (v : Vw) (A : Option Addr) (n c : Nat) (w : World) (hn : n ≤ 100000) (hr : Row w.heap.size w A n 2 (fcells v.files)) :
  Calls Tryz.prog 198 #[v.val A n c] w fun e w' => ∃ A' c', e = .returned (v.whole.val none 0 0 A' n c') ∧ Fresh w.heap.size w' A' n c' v.files ∧ Below w.heap.size w w' := by
 obtain ⟨i0, hi0, hz0, hz1, hz2⟩ := info_parts info_file
 obtain ⟨g, fs, f, ce, a, l⟩ := v
 unfold Vw.val Vw.whole Ed.val
 simp only at hr ⊢
 go_enter Tryz.func198, Tryz.ntmps198
 go_wp2_with fail
 change Code.wp _ _ _ _ ((w.alloc (.cells #[.int .i64 g, .slice A n c, .int .u64 (f : Int), .int .u64 (ce : Int), .int .u64 (a : Int), .int .u64 (l : Int)] 134)).alloc (.cells #[.slice none 0 0, .slice none 0 0, .int .i64 0, .int .u64 0, .int .u64 0, .int .u64 0, .int .u64 0] 163))
 have hbw : Below w.heap.size w ((w.alloc (.cells #[.int .i64 g, .slice A n c, .int .u64 (f : Int), .int .u64 (ce : Int), .int .u64 (a : Int), .int .u64 (l : Int)] 134)).alloc (.cells #[.slice none 0 0, .slice none 0 0, .int .i64 0, .int .u64 0, .int .u64 0, .int .u64 0, .int .u64 0] 163)) := ((Below.refl _ _).alloc (Nat.le_refl _) _).alloc (by simp) _
 have hP := (BoxO.new w #[.int .i64 g, .slice A n c, .int .u64 (f : Int), .int .u64 (ce : Int), .int .u64 (a : Int), .int .u64 (l : Int)] 134).alloc (.cells #[.slice none 0 0, .slice none 0 0, .int .i64 0, .int .u64 0, .int .u64 0, .int .u64 0, .int .u64 0] 163)
 have hR := BoxO.new (w.alloc (.cells #[.int .i64 g, .slice A n c, .int .u64 (f : Int), .int .u64 (ce : Int), .int .u64 (a : Int), .int .u64 (l : Int)] 134)) #[.slice none 0 0, .slice none 0 0, .int .i64 0, .int .u64 0, .int .u64 0, .int .u64 0, .int .u64 0] 163
 simp only [World.size_alloc] at hR
 have hsz : ((w.alloc (.cells #[.int .i64 g, .slice A n c, .int .u64 (f : Int), .int .u64 (ce : Int), .int .u64 (a : Int), .int .u64 (l : Int)] 134)).alloc (.cells #[.slice none 0 0, .slice none 0 0, .int .i64 0, .int .u64 0, .int .u64 0, .int .u64 0, .int .u64 0] 163)).heap.size = w.heap.size + 1 + 1 := by simp
 have hrV := hr.below hbw
 generalize ((w.alloc (.cells #[.int .i64 g, .slice A n c, .int .u64 (f : Int), .int .u64 (ce : Int), .int .u64 (a : Int), .int .u64 (l : Int)] 134)).alloc (.cells #[.slice none 0 0, .slice none 0 0, .int .i64 0, .int .u64 0, .int .u64 0, .int .u64 0, .int .u64 0] 163)) = V at *
 have HRV := Lib.hid hrV.drew
 have HSZ : Hid (w.heap.size + 1 + 1 ≤ V.drew.heap.size) := Lib.hid (Nat.le_of_eq hsz.symm)
 clear hrV hr hsz
 refine wp_region_held_drew (S := (fun w' => Below w.heap.size w w' ∧ BoxO w' 134 w.heap.size [.int .i64 g, .slice A n c, .int .u64 (f : Int), .int .u64 (ce : Int), .int .u64 (a : Int), .int .u64 (l : Int)])) rfl ⟨below_drew hbw, hP.drew⟩ (fun hSw => ?_)
 refine wpT (i := 0) (v := ?v0) ?h0 hSw ?k0
 case h0 => (intro w hSw; have u0 := hSw.2.cell 0; have u1 := hSw.2.cell 1; have u2 := hSw.2.cell 2; have u3 := hSw.2.cell 3; have u4 := hSw.2.cell 4; have u5 := hSw.2.cell 5; simp only [gE0, gE1] at u0 u1 u2 u3 u4 u5; go_simp; try (with_reducible rfl))
 go_simp
 refine wpT (i := 1) (v := ?v1) ?h1 hSw ?k1
 case h1 => (intro w hSw; have u0 := hSw.2.cell 0; have u1 := hSw.2.cell 1; have u2 := hSw.2.cell 2; have u3 := hSw.2.cell 3; have u4 := hSw.2.cell 4; have u5 := hSw.2.cell 5; simp only [gE0, gE1] at u0 u1 u2 u3 u4 u5; go_simp; try (with_reducible rfl))
 go_simp
 refine wpT (i := 3) (v := ?v3) ?h3 hSw ?k3
 case h3 => (intro w hSw; have u0 := hSw.2.cell 0; have u1 := hSw.2.cell 1; have u2 := hSw.2.cell 2; have u3 := hSw.2.cell 3; have u4 := hSw.2.cell 4; have u5 := hSw.2.cell 5; simp only [gE0, gE1] at u0 u1 u2 u3 u4 u5; go_simp; try (with_reducible rfl))
 go_simp
 refine wpT (i := 4) (v := ?v4) ?h4 hSw ?k4
 case h4 => (intro w hSw; have u0 := hSw.2.cell 0; have u1 := hSw.2.cell 1; have u2 := hSw.2.cell 2; have u3 := hSw.2.cell 3; have u4 := hSw.2.cell 4; have u5 := hSw.2.cell 5; simp only [gE0, gE1] at u0 u1 u2 u3 u4 u5; go_simp; try (with_reducible rfl))
 go_simp
 refine wpT (i := 5) (v := ?v5) ?h5 hSw ?k5
 case h5 => (intro w hSw; have u0 := hSw.2.cell 0; have u1 := hSw.2.cell 1; have u2 := hSw.2.cell 2; have u3 := hSw.2.cell 3; have u4 := hSw.2.cell 4; have u5 := hSw.2.cell 5; simp only [gE0, gE1] at u0 u1 u2 u3 u4 u5; go_simp; try (with_reducible rfl))
 go_simp
 refine wpT (i := 6) (v := ?v6) ?h6 hSw ?k6
 case h6 => (intro w hSw; have u0 := hSw.2.cell 0; have u1 := hSw.2.cell 1; have u2 := hSw.2.cell 2; have u3 := hSw.2.cell 3; have u4 := hSw.2.cell 4; have u5 := hSw.2.cell 5; simp only [gE0, gE1] at u0 u1 u2 u3 u4 u5; go_simp; try (with_reducible rfl))
 go_simp
 refine wpT (i := 7) (v := ?v7) ?h7 hSw ?k7
 case h7 => (intro w hSw; have u0 := hSw.2.cell 0; have u1 := hSw.2.cell 1; have u2 := hSw.2.cell 2; have u3 := hSw.2.cell 3; have u4 := hSw.2.cell 4; have u5 := hSw.2.cell 5; simp only [gE0, gE1] at u0 u1 u2 u3 u4 u5; go_simp; try (with_reducible rfl))
 go_simp
 refine wpT (i := 8) (v := ?v8) ?h8 hSw ?k8
 case h8 => (intro w hSw; have u0 := hSw.2.cell 0; have u1 := hSw.2.cell 1; have u2 := hSw.2.cell 2; have u3 := hSw.2.cell 3; have u4 := hSw.2.cell 4; have u5 := hSw.2.cell 5; simp only [gE0, gE1] at u0 u1 u2 u3 u4 u5; go_simp; try (with_reducible rfl))
 go_simp
 refine wpT (i := 9) (v := ?v9) ?h9 hSw ?k9
 case h9 => (intro w hSw; have u0 := hSw.2.cell 0; have u1 := hSw.2.cell 1; have u2 := hSw.2.cell 2; have u3 := hSw.2.cell 3; have u4 := hSw.2.cell 4; have u5 := hSw.2.cell 5; simp only [gE0, gE1] at u0 u1 u2 u3 u4 u5; go_simp; try (with_reducible rfl))
 go_simp
 refine wpT (i := 10) (v := ?v10) ?h10 hSw ?k10
 case h10 => (intro w hSw; have u0 := hSw.2.cell 0; have u1 := hSw.2.cell 1; have u2 := hSw.2.cell 2; have u3 := hSw.2.cell 3; have u4 := hSw.2.cell 4; have u5 := hSw.2.cell 5; simp only [gE0, gE1] at u0 u1 u2 u3 u4 u5; go_simp; try (with_reducible rfl))
 go_simp
 refine wpT (i := 11) (v := ?v11) ?h11 hSw ?k11
 case h11 => (intro w hSw; have u0 := hSw.2.cell 0; have u1 := hSw.2.cell 1; have u2 := hSw.2.cell 2; have u3 := hSw.2.cell 3; have u4 := hSw.2.cell 4; have u5 := hSw.2.cell 5; simp only [gE0, gE1] at u0 u1 u2 u3 u4 u5; go_simp; try (with_reducible rfl))
 go_simp
 refine wpT (i := 12) (v := ?v12) ?h12 hSw ?k12
 case h12 => (intro w hSw; have u0 := hSw.2.cell 0; have u1 := hSw.2.cell 1; have u2 := hSw.2.cell 2; have u3 := hSw.2.cell 3; have u4 := hSw.2.cell 4; have u5 := hSw.2.cell 5; simp only [gE0, gE1] at u0 u1 u2 u3 u4 u5; go_simp; try (with_reducible rfl))
 go_simp
 refine wpAnyH_ready (rs := [2]) (by kernel_rfl) (by simp) ?_
 refine AllReadyH.cons rfl (fun K hK => ?_) AllReadyH.nil
 refine step_appG rfl (.const (.slice none 0 0)) (.tmp 4) _ rfl (w.heap.size + 1 + 1) 166 i0 _ 2 16 Tryz.underlying132 hi0 hz0 hz1 hz2 rfl (by omega) HSZ.out (.slice none 0 0) 0 [] rfl (World.ownsRow_nil _ _ _ _) w.heap.size A n c (fcells fs) rfl HRV.out (fcells_one _) n _ (Nat.zero_add _) (List.nil_append _) (by unfold maxLen; omega) (by omega) ?_
 intro A4 c4 w4 hown4 hg4 _ _ _
 have hF4 := own_fresh (B := w.heap.size + 1 + 1) hown4 (Nat.le_refl _)
 have hR4 : BoxO w4 _ _ _ := hR.drew.grown hg4
 have hS4 := (⟨hSw.1.grown hg4 hSw.1.size (fun k hk => by cases hk), hSw.2.grown hg4⟩ : Below w.heap.size w w4 ∧ BoxO w4 134 w.heap.size [.int .i64 g, .slice A n c, .int .u64 (f : Int), .int .u64 (ce : Int), .int .u64 (a : Int), .int .u64 (l : Int)])
 refine hK.out _ _ hS4 (fun hSn => ?_)
 clear hK K hSw hSn
 have hSw := hS4
 clear hS4 hown4 hg4 hR hP hbw HRV HSZ
 go_simp
 refine wpT (i := 13) (v := ?v13) ?h13 hSw ?k13
 case h13 => (intro w hSw; have u0 := hSw.2.cell 0; have u1 := hSw.2.cell 1; have u2 := hSw.2.cell 2; have u3 := hSw.2.cell 3; have u4 := hSw.2.cell 4; have u5 := hSw.2.cell 5; simp only [gE0, gE1] at u0 u1 u2 u3 u4 u5; go_simp; try (with_reducible rfl))
 go_simp
 have r0 := hR4.cell 0
 have y0 := hR4.free 0
 have r1 := hR4.cell 1
 have y1 := hR4.free 1
 have r2 := hR4.cell 2
 have y2 := hR4.free 2
 have r3 := hR4.cell 3
 have y3 := hR4.free 3
 have r4 := hR4.cell 4
 have y4 := hR4.free 4
 have r5 := hR4.cell 5
 have y5 := hR4.free 5
 have r6 := hR4.cell 6
 have y6 := hR4.free 6
 simp only [gE0, gE1] at r0 r1 r2 r3 r4 r5 r6
 have hch : Chg [w.heap.size + 1] w4 _ := (((((((Chg.refl _ w4).setCell (p := ⟨w.heap.size + 1, 0, none⟩) (.slice none 0 0) (.inl (by simp))).setCell (p := ⟨w.heap.size + 1, 1, none⟩) (.slice A4 n c4) (.inl (by simp))).setCell (p := ⟨w.heap.size + 1, 2, none⟩) (.int .i64 g) (.inl (by simp))).setCell (p := ⟨w.heap.size + 1, 3, none⟩) (.int .u64 (f : Int)) (.inl (by simp))).setCell (p := ⟨w.heap.size + 1, 4, none⟩) (.int .u64 (ce : Int)) (.inl (by simp))).setCell (p := ⟨w.heap.size + 1, 5, none⟩) (.int .u64 (a : Int)) (.inl (by simp))).setCell (p := ⟨w.heap.size + 1, 6, none⟩) (.int .u64 (l : Int)) (.inl (by simp))
 refine wpAnyH_ready (rs := [14]) (by kernel_rfl) (by simp) ?_
 refine AllReadyH.cons rfl (fun K hK => ?_) AllReadyH.nil
 go_simp
 refine hK.out _ _ ⟨(((((((hSw.1.setCell (by simp) _).setCell (by simp) _).setCell (by simp) _).setCell (by simp) _).setCell (by simp) _).setCell (by simp) _).setCell (by simp) _), hSw.2.chg hch (by simp)⟩ (fun hSn => ?_)
 clear hK K hSw
 have hSw := hSn
 clear hSn
 go_simp
 refine wpAnyH_done (by kernel_rfl) ?_ _
 go_wp2_with fail
 refine bodyPost_ret (v := .agg #[.slice none 0 0, .slice A4 n c4, .int .i64 g, .int .u64 (f : Int), .int .u64 (ce : Int), .int .u64 (a : Int), .int .u64 (l : Int)]) (by simp [results, go_sem, *]) rfl ⟨A4, c4, rfl, ?_, hSw.1⟩
 exact (hF4.chg hch (fun q hq h => by
  have := hF4.low q hq
  simp at h
  omega)).base (by omega)
end
end Go.Proofs.YtdkjoigpahafmaaGreatDoor
