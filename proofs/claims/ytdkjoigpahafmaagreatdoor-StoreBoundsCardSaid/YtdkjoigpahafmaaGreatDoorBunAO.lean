/- Texts BloomB, TableA, PlainFit, TableB in one. No conditions. -/
import Derived.Test.YtdkjoigpahafmaaGreatDoorBunAA
import Derived.Test.YtdkjoigpahafmaaGreatDoorBunAN
import Derived.StillTailTactics
import Derived.Test.YtdkjoigpahafmaaGreatDoorBunAM
import Derived.Test.YtdkjoigpahafmaaGreatDoorBunAE
import Derived.Test.YtdkjoigpahafmaaGreatDoorBunAK
import Derived.Test.YtdkjoigpahafmaaGreatDoorBunAD

set_option linter.unusedSimpArgs false
set_option linter.unusedVariables false
set_option maxRecDepth 100000
set_option maxHeartbeats 16000000
namespace Go.Proofs.YtdkjoigpahafmaaGreatDoor
section
open Go Go.RowKit Go.Lib
theorem or_bit (c : UInt8) {j : Nat} (hj : j < 8) : bits .or .u8 (c.toNat : Int) ((2 ^ j : Nat) : Int) = ((c ||| UInt8.ofNat (2 ^ j)).toNat : Int) := by
 have key : ∀ (y : Fin 256) (j : Fin 8), bits .or .u8 ((y.val : Nat) : Int) ((2 ^ j.val : Nat) : Int) = (((UInt8.ofNat y.val) ||| UInt8.ofNat (2 ^ j.val)).toNat : Int) := by decide +kernel
 have := key ⟨c.toNat, c.toNat_lt⟩ ⟨j, hj⟩
 simpa using this
theorem setBit_len_ (b : List UInt8) (i : Nat) : (Tb.setBit b i).length = b.length := by simp [Tb.setBit]
theorem or_bit2 (c : UInt8) {j : Nat} (hj : j < 8) : bits .or .u8 (c.toNat : Int) (IntKind.u8.wrap (2 ^ j)) = ((c ||| UInt8.ofNat (2 ^ j)).toNat : Int) := by
 rw [← or_bit c hj]
 congr 1
 have e : j = 0 ∨ j = 1 ∨ j = 2 ∨ j = 3 ∨ j = 4 ∨ j = 5 ∨ j = 6 ∨ j = 7 := by omega
 rcases e with rfl | rfl | rfl | rfl | rfl | rfl | rfl | rfl <;> decide
theorem BlAt.set {w : World} {f g : Nat} {B : List UInt8} {x q j : Nat} {bx : UInt8} (h : BlAt w f g B) (hq : q = x / 8) (hj : j = x % 8) (hB : B[q]? = some bx) :
  BlAt (w.drew.setCell ⟨g, q, none⟩ (.int .u8 ((bx ||| UInt8.ofNat (2 ^ j)).toNat : Int))) f g (Tb.setBit B x) ∧ Chg [g] w (w.drew.setCell ⟨g, q, none⟩ (.int .u8 ((bx ||| UInt8.ofNat (2 ^ j)).toNat : Int))) := by
 have hc := chg_set w.drew ⟨g, q, none⟩ (.int .u8 ((bx ||| UInt8.ofNat (2 ^ j)).toNat : Int))
 refine ⟨⟨?_, ?_, h.ne⟩, ((Chg.refl [g] w).drew).trans hc (fun g hg => .inl hg)⟩
 ·rw [setBit_len_]
  exact h.box.drew.chg hc (by simpa using h.ne)
 ·have := h.bits.drew.store q (.int .u8 ((bx ||| UInt8.ofNat (2 ^ j)).toNat : Int))
  have e : (bts B).set q (.int .u8 ((bx ||| UInt8.ofNat (2 ^ j)).toNat : Int)) = bts (Tb.setBit B x) := by
   unfold Tb.setBit bts
   rw [List.map_set, ← hq, ← hj, List.getD_eq_getElem?_getD, hB]
   rfl
  rw [← e]
  exact this
theorem setBit_len (b : List UInt8) (i : Nat) : (Tb.setBit b i).length = b.length := by simp [Tb.setBit]
theorem setBits_len (l : List Nat) : ∀ b : List UInt8, (l.foldl Tb.setBit b).length = b.length := by
 induction l with
 | nil => exact fun _ => rfl
 | cons a l ih => exact fun b => by rw [List.foldl_cons, ih, setBit_len]
theorem addKey_len (b key : List UInt8) : (Tb.addKey b key).length = b.length := setBits_len _ _
theorem bladd_any (f g : Nat) (b : List UInt8) (K : Option Addr) (m c : Nat) (key : List UInt8) (w : World) (h : BlAt w f g b) (hb0 : 0 < b.length) (hbl : b.length ≤ 3000) (hm : m ≤ 1000) (hr : Row w.heap.size w K m 1 (bts key)) :
  Calls Tryz.prog 251 #[.pointer (some ⟨f, 0, none⟩), .slice K m c] w fun e w' => e = .returned (.tuple #[]) ∧ BlAt w' f g (Tb.addKey b key) ∧ Chg [g] w w' := by
 have hp := blplaces_any f g b K m c key w h hb0 hbl hm hr
 obtain ⟨P, hP⟩ : ∃ P, P = Tb.places b.length key := ⟨_, rfl⟩
 have hPl : P.length = 7 := by rw [hP]; simp [Tb.places]
 have hPb : ∀ x ∈ P, x < b.length * 8 := fun x hx => by
  rw [hP] at hx
  simp only [Tb.places, List.mem_map] at hx
  obtain ⟨i, _, rfl⟩ := hx
  exact Nat.mod_lt _ (by omega)
 unfold Tb.addKey
 rw [← hP] at hp ⊢
 have hgl := h.bits.lt
 have HP := Lib.hid hp
 have H := Lib.hid h
 have HPB := Lib.hid hPb
 clear hp hP hr h hPb
 go_enter Tryz.func251, Tryz.ntmps251
 go_wp2_with fail
 refine HP.out.mono ?_
 rintro e w1 ⟨A1, c1, rfl, ho1, hb1⟩
 obtain ⟨A9, c9, hv, hqc, hqm, hlow⟩ := own_form ho1
 injection hv with e1 e2 e3
 subst e1 e3
 have hrow : Row w1.heap.size w1 A1 7 1 (i64v P) := Row.own ho1
 have HR := Lib.hid hrow
 have HL := Lib.hid hlow
 have H1 := Lib.hid (H.out.below hb1)
 have HB1 := Lib.hid hb1
 clear ho1 hrow hlow hb1 HP
 go_wp2_with fail
 go_loopw [10] (fun i wr => ∃ k : Nat, k ≤ 7 ∧ i = .int .i64 (k : Int) ∧ Hid (BlAt wr f g ((P.take k).foldl Tb.setBit b) ∧ Chg [g] w1 wr)) (fun i _ => 7 - (intOf i).toNat)
 case atStart => exact ⟨0, by omega, rfl, Lib.hid ⟨H1.out, Chg.refl _ _⟩⟩
 case round =>
  obtain ⟨k, hk7, rfl, HK⟩ := hrel
  by_cases hk : k < 7
  ·have hki : (k : Int) < 7 := by omega
   have hwk : IntKind.i64.wrap (k : Int) = (k : Int) := IntWalk.i64_in _ (by omega)
   have hrk := HK.out.2.row HR.out (Nat.le_refl _) (fun a ha hm => by
    have := (HL.out a ha).1
    have h2 := List.mem_singleton.1 hm
    omega)
   have hPk : P[k]? = some P[k] := List.getElem?_eq_getElem (by omega)
   obtain ⟨a, ha, hab, hc⟩ := row_cell hrk (show (i64v P)[k]? = some (.int .i64 ((P[k] : Nat) : Int)) by unfold i64v; rw [List.getElem?_map, hPk]; rfl)
   have hxb := HPB.out _ (List.getElem_mem (show k < P.length by omega))
   have htk : P.take (k + 1) = P.take k ++ [P[k]] := List.take_succ_eq_append_getElem (by omega)
   generalize P[k] = x at *
   obtain ⟨B, hB⟩ : ∃ B, B = (P.take k).foldl Tb.setBit b := ⟨_, rfl⟩
   have hBl : B.length = b.length := by rw [hB]; exact setBits_len _ _
   have hk1 := HK.out.1
   rw [← hB] at hk1
   subst ha
   have c1 := hk1.box.cell 1
   simp only [gE0, gE1] at c1
   obtain ⟨q, hq⟩ : ∃ q, q = x / 8 := ⟨_, rfl⟩
   obtain ⟨j, hj⟩ : ∃ j, j = x % 8 := ⟨_, rfl⟩
   have hx8 : q < B.length := by omega
   have cg := hk1.bits.cell q
   obtain ⟨bx, hBx⟩ : ∃ bx, B[q]? = some bx := ⟨_, List.getElem?_eq_getElem hx8⟩
   rw [bts_get, hBx] at cg
   have zg := hk1.bits.free q
   rw [hBl] at c1
   have hq8 : (x : Int) / 8 = (q : Int) := by omega
   have hq8i : (q : Int) < (b.length : Int) := by omega
   have hq8n : q < b.length := by omega
   have hm8 : (x : Int) % 8 = (j : Int) := by omega
   have hmt : (x : Int).tmod 8 = (j : Int) := by rw [Int.tmod_eq_emod_of_nonneg (by omega)]; omega
   have hj8 : j < 8 := by omega
   have hwq : IntKind.i64.wrap (q : Int) = (q : Int) := IntWalk.i64_in _ (by omega)
   have hwj : IntKind.i64.wrap (j : Int) = (j : Int) := IntWalk.i64_in _ (by omega)
   have hj8i : (j : Int) < 8 := by omega
   have hor := or_bit2 bx hj8
   have HQJ := Lib.hid (And.intro hq hj)
   have HOR := Lib.hid hor
   clear hor hq hj
   have HB := Lib.hid (And.intro hB (And.intro hBl (And.intro hBx hx8)))
   have HK1 := Lib.hid hk1
   have HT := Lib.hid htk
   clear hB hBl hBx hx8 hk1 htk
   have hm8 : (x : Int) % 8 = ((x % 8 : Nat) : Int) := by omega
   have hmt : (x : Int).tmod 8 = ((x % 8 : Nat) : Int) := by rw [Int.tmod_eq_emod_of_nonneg (by omega)]; omega
   go_wp2_with fail
   go_still_tail 13, (by kernel_rfl)
   change wpList _ _ _ _ _ (World.drew wr)
   have hst := HK1.out.set HQJ.out.1 HQJ.out.2 HB.out.2.2.1
   rw [← HOR.out] at hst
   have HST := Lib.hid hst
   clear hst
   go_wp2
   go_roundw
   case rel => exact ⟨k + 1, by omega, by go_num, Lib.hid ⟨by rw [HT.out, List.foldl_append, ← HB.out.1]; exact HST.out.1, HK.out.2.trans HST.out.2 (fun g hg => .inl hg)⟩⟩
   case measure => simp [intOf]; omega
  ·have hki : ((k : Int) < 7) = False := eq_false (by omega)
   have hall : P.take k = P := List.take_of_length_le (by omega)
   have hk2 := HK.out
   rw [hall] at hk2
   have HF := Lib.hid (And.intro hk2.1 ((Chg.of_below HB1.out [g]).trans hk2.2 (fun g hg => .inl hg)))
   clear hk2 HK hall
   go_wp2
   exact bodyPost_end (v := .tuple #[]) (by simp [results, go_sem]) rfl ⟨rfl, HF.out⟩
theorem blrow {w : World} {f g : Nat} {b : List UInt8} (h : BlAt w f g b) : Row w.heap.size w (some ⟨g, 0, none⟩) b.length 1 (bts b) := by
 refine ⟨by rw [bts_length, Nat.mul_one], fun j hj => ⟨_, rfl, h.bits.lt, ?_⟩⟩
 rw [show ((⟨g, 0, none⟩ : Addr).add j) = ⟨g, j, none⟩ by rw [Addr.add_lit, Nat.zero_add], h.bits.cell]
 exact List.getElem?_eq_getElem hj
theorem BlAt.app {w w' : World} {f g : Nat} {b : List UInt8} {r : Option Nat} (h : BlAt w f g b) (hg : w.grownBy w' r) (hr : some f ≠ r ∧ some g ≠ r) : BlAt w' f g b := ⟨h.box.igrown hg hr.1, h.bits.igrown hg hr.2, h.ne⟩
theorem iown_of {w w1 w2 : World} {f g n base : Nat} {b : List UInt8} {v : Value} {xs : List Value} {e : TypeId} (ho : w2.ownsRow base e 1 v n xs) (hb : Below w1.heap.size w1 w2) (h : BlAt w f g b) (hB : w.heap.size ≤ base := by omega) : some f ≠ v.ownBlock ∧ some g ≠ v.ownBlock := by
 have h1 := h.box.lt
 have h2 := h.bits.lt
 rcases ho.2 with ⟨rfl, _⟩ | ⟨g', cap, cur, rfl, hg', _⟩
 ·exact ⟨(by intro e; cases e), (by intro e; cases e)⟩
 ·refine ⟨fun e => ?_, fun e => ?_⟩
  ·have e : f = g' := Option.some.inj e
   omega
  ·have e : g = g' := Option.some.inj e
   omega
def blb (b : List UInt8) : List UInt8 := Pn.put 7 ++ (Pn.put b.length ++ b)
theorem blbytes_any (f g : Nat) (b : List UInt8) (w : World) (h : BlAt w f g b) (hbl : b.length ≤ 3000) :
  Calls Tryz.prog 221 #[.pointer (some ⟨f, 0, none⟩)] w fun e w' => ∃ A' M c', e = .returned (.slice A' M c') ∧ w'.ownsRow w.heap.size 5 1 (.slice A' M c') M (bts (blb b)) ∧ M ≤ c' ∧ c' ≤ maxLen ∧ Below w.heap.size w w' := by
 obtain ⟨i0, hi0, hz0, hz1, hz2⟩ := info_parts info_u8
 have hp1 := put_any none 0 0 [] 7 (by decide) w.drew (by omega) Row.nil_
 simp only [Nat.zero_add, List.nil_append] at hp1
 have hcv : ∀ w, (convert 3 25 (.int .i64 (b.length : Int))).run Tryz.prog w = .ok (.int .u64 (b.length : Int)) w := by
  intro w
  have : (b.length : Int) % 18446744073709551616 = (b.length : Int) := by omega
  simp [go_sem, convert, IntKind.wrap_u64, this]
 have l7 : (Pn.put 7).length = 1 := by decide
 rw [l7, show ((7 : Nat) : Int) = IntKind.u64.wrap 7 from by decide] at hp1
 have hpl := Pn.put_len b.length
 have HP1 := Lib.hid hp1
 have H := Lib.hid h
 clear hp1 h l7
 go_enter Tryz.func221, Tryz.ntmps221
 go_wp2_with fail
 refine wp_region_held_drew (S := fun w' => BlAt w' f g b) rfl (H.out.below (below_drew (Below.refl _ _))) (fun hSw => ?_)
 refine wpT (i := 0) (v := ?vby0) ?hby0 hSw ?kby0
 case hby0 => (intro w hSw; (have c0 := hSw.box.cell 0; have c1 := hSw.box.cell 1; simp only [gE0, gE1] at c0 c1); go_simp; try (with_reducible rfl))
 go_simp
 refine wpT (i := 1) (v := ?vby1) ?hby1 hSw ?kby1
 case hby1 => (intro w hSw; (have c0 := hSw.box.cell 0; have c1 := hSw.box.cell 1; simp only [gE0, gE1] at c0 c1); go_simp; try (with_reducible rfl))
 go_simp
 refine wpT (i := 2) (v := ?vby2) ?hby2 hSw ?kby2
 case hby2 => (intro w hSw; (have c0 := hSw.box.cell 0; have c1 := hSw.box.cell 1; simp only [gE0, gE1] at c0 c1); go_simp; try (with_reducible rfl))
 go_simp
 refine wpT (i := 3) (v := ?vby3) ?hby3 hSw ?kby3
 case hby3 => (intro w hSw; (have c0 := hSw.box.cell 0; have c1 := hSw.box.cell 1; simp only [gE0, gE1] at c0 c1); go_simp; try (with_reducible rfl))
 go_simp
 refine wpT (i := 4) (v := ?vby4) ?hby4 hSw ?kby4
 case hby4 => (intro w hSw; (have c0 := hSw.box.cell 0; have c1 := hSw.box.cell 1; simp only [gE0, gE1] at c0 c1); go_simp; try (with_reducible rfl))
 go_simp
 refine wpT (i := 6) (v := ?vby6) ?hby6 hSw ?kby6
 case hby6 => (intro w hSw; (have c0 := hSw.box.cell 0; have c1 := hSw.box.cell 1; simp only [gE0, gE1] at c0 c1); go_simp; try (with_reducible rfl))
 go_simp
 refine wpT (i := 7) (v := ?vby7) ?hby7 hSw ?kby7
 case hby7 => (intro w hSw; (have c0 := hSw.box.cell 0; have c1 := hSw.box.cell 1; simp only [gE0, gE1] at c0 c1); go_simp; try (with_reducible rfl))
 go_simp
 refine wpT (i := 8) (v := ?vby8) ?hby8 hSw ?kby8
 case hby8 => (intro w hSw; (have c0 := hSw.box.cell 0; have c1 := hSw.box.cell 1; simp only [gE0, gE1] at c0 c1); go_simp; try (with_reducible rfl))
 go_simp
 refine wpT (i := 9) (v := ?vby9) ?hby9 hSw ?kby9
 case hby9 => (intro w hSw; (have c0 := hSw.box.cell 0; have c1 := hSw.box.cell 1; simp only [gE0, gE1] at c0 c1); go_simp; try (with_reducible rfl))
 go_simp
 refine wpT (i := 10) (v := ?vby10) ?hby10 hSw ?kby10
 case hby10 => (intro w hSw; (have c0 := hSw.box.cell 0; have c1 := hSw.box.cell 1; simp only [gE0, gE1] at c0 c1); go_simp; try (with_reducible rfl))
 go_simp
 refine wpT (i := 11) (v := ?vby11) ?hby11 hSw ?kby11
 case hby11 => (intro w hSw; (have c0 := hSw.box.cell 0; have c1 := hSw.box.cell 1; simp only [gE0, gE1] at c0 c1); go_simp; try (with_reducible rfl))
 go_simp
 refine wpT (i := 13) (v := ?vby13) ?hby13 hSw ?kby13
 case hby13 => (intro w hSw; (have c0 := hSw.box.cell 0; have c1 := hSw.box.cell 1; simp only [gE0, gE1] at c0 c1); go_simp; try (with_reducible rfl))
 go_simp
 refine wpT (i := 14) (v := ?vby14) ?hby14 hSw ?kby14
 case hby14 => (intro w hSw; (have c0 := hSw.box.cell 0; have c1 := hSw.box.cell 1; simp only [gE0, gE1] at c0 c1); go_simp; try (with_reducible rfl))
 go_simp
 refine wpT (i := 15) (v := ?vby15) ?hby15 hSw ?kby15
 case hby15 => (intro w hSw; (have c0 := hSw.box.cell 0; have c1 := hSw.box.cell 1; simp only [gE0, gE1] at c0 c1); go_simp; try (with_reducible rfl))
 go_simp
 refine wpT (i := 16) (v := ?vby16) ?hby16 hSw ?kby16
 case hby16 => (intro w hSw; (have c0 := hSw.box.cell 0; have c1 := hSw.box.cell 1; simp only [gE0, gE1] at c0 c1); go_simp; try (with_reducible rfl))
 go_simp
 refine wpAnyH_ready (rs := [5]) (by kernel_rfl) (by simp) ?_
 refine AllReadyH.cons rfl (fun K hK => ?_) AllReadyH.nil
 go_simp
 with_reducible refine HP1.out.mono ?_
 (rintro e w1 ⟨A1, c1, rfl, ho1, hc1, hm1, hb1⟩; have hb1' := (below_drew (Below.refl w.heap.size w)).trans hb1; have hp2 := put_any A1 1 c1 (Pn.put 7) b.length (by omega) w1 (by omega) (Row.own ho1))
 go_simp
 refine hK.out _ _ (H.out.below hb1') (fun hSn => ?_)
 clear hK K hSw
 have hSw := hSn
 clear hSn
 go_simp
 refine wpAnyH_ready (rs := [12]) (by kernel_rfl) (by simp) ?_
 refine AllReadyH.cons rfl (fun K hK => ?_) AllReadyH.nil
 go_simp
 with_reducible refine hp2.mono ?_
 (rintro e w2 ⟨A2, c2, rfl, ho2, hc2, hm2, hb2⟩; have hb2' := hb1'.trans (hb2.mono hb1'.size); have hob := own_base ho2 hb1'.size; have hbB := H.out.below hb2'; have hrb := blrow hbB)
 go_simp
 refine hK.out _ _ hbB (fun hSn => ?_)
 clear hK K hSw
 have hSw := hSn
 clear hSn
 go_simp
 refine wpAnyH_ready (rs := [17]) (by kernel_rfl) (by simp) ?_
 refine AllReadyH.cons rfl (fun K hK => ?_) AllReadyH.nil
 refine step_appG rfl (.tmp 15) (.tmp 19) _ rfl w.heap.size 5 i0 _ 1 1 Tryz.underlying121 hi0 hz0 hz1 hz2 rfl (by omega) hb2'.size (.slice A2 (1 + (Pn.put b.length).length) c2) (1 + (Pn.put b.length).length) _ rfl hob w2.heap.size _ b.length b.length (bts b) rfl hrb (bts_one _) (1 + (Pn.put b.length).length + b.length) (bts (blb b)) rfl (by simp [bts, blb]) (by unfold maxLen; omega) (by omega) ?_
 intro A3 c3 w3 z1 z2 z3 z4 z5
 have hfin := below_own hb2' hob z2 hb2'.size
 refine hK.out _ _ (BlAt.app hbB z2 (iown_of hob hb2 H.out)) (fun hSn => ?_)
 clear hK K hSw
 have hSw := hSn
 clear hSn
 go_simp
 refine wpT (i := 18) (v := ?vby18) ?hby18 hSw ?kby18
 case hby18 => (intro w hSw; (have c0 := hSw.box.cell 0; have c1 := hSw.box.cell 1; simp only [gE0, gE1] at c0 c1); go_simp; try (with_reducible rfl))
 go_simp
 refine wpAnyH_done (by kernel_rfl) ?_ _
 clear hSw
 have HF := Lib.hid (And.intro z1 (And.intro z3 (And.intro z4 hfin)))
 clear z1 z2 z5 hfin hob hbB hrb
 go_wp2
 go_ret
 exact ⟨A3, _, c3, rfl, HF.out⟩
theorem bits_len (l : List It) : ∀ b : List UInt8, (l.foldl (fun b a => Tb.addKey b a.key) b).length = b.length := by
 induction l with
 | nil => exact fun _ => rfl
 | cons a l ih => exact fun b => by rw [List.foldl_cons, ih, addKey_len]
theorem tfilter_any (L : Option Addr) (m d : Nat) (l : List It) (w : World) (hm : m ≤ 2000) (hq : Row w.heap.size w L m 5 (itc l)) (hk : ∀ x ∈ l, x.ok = true) :
  Calls Tryz.prog 220 #[.slice L m d] w fun e w' => ∃ f g, e = .returned (.pointer (some ⟨f, 0, none⟩)) ∧ BlAt w' f g (Tb.bits l) ∧ w.heap.size ≤ f ∧ w.heap.size ≤ g ∧ Below w.heap.size w w' := by
 have hmn := hq.itlen
 have hnw := blnew_any m w hm
 obtain ⟨b0, hb0⟩ : ∃ b0, b0 = List.replicate (Tb.fsize m) (0 : UInt8) := ⟨_, rfl⟩
 have hb1 : 0 < b0.length ∧ b0.length ≤ 3000 := by rw [hb0, List.length_replicate]; unfold Tb.fsize; omega
 have hbt : Tb.bits l = l.foldl (fun b a => Tb.addKey b a.key) b0 := by unfold Tb.bits; rw [hmn, hb0]
 rw [← hb0] at hnw
 rw [hbt]
 have HNW := Lib.hid hnw
 have HK := Lib.hid hk
 clear hnw hk hb0 hbt
 go_enter Tryz.func220, Tryz.ntmps220
 go_wp2_with fail
 refine HNW.out.mono ?_
 rintro e w1 ⟨f, g, rfl, h1, hf, hg, hb⟩
 have HH := Lib.hid (And.intro h1 (And.intro hf (And.intro hg hb)))
 clear h1 hf hg hb HNW
 go_wp2_with fail
 go_loopw [15] (fun i wr => ∃ k : Nat, k ≤ m ∧ i = .int .i64 (k : Int) ∧ Hid (BlAt wr f g ((l.take k).foldl (fun b a => Tb.addKey b a.key) b0) ∧ Below w.heap.size w wr)) (fun i _ => m - (intOf i).toNat)
 case atStart => exact ⟨0, by omega, rfl, Lib.hid ⟨HH.out.1, HH.out.2.2.2⟩⟩
 case round =>
  obtain ⟨k, hkm, rfl, HB⟩ := hrel
  by_cases hlt : k < m
  ·obtain ⟨p, hl, rfl, hbk, d0, d1, d2, d3, d4⟩ := (hq.below HB.out.2).it hlt
   have hki : (k : Int) < (m : Int) := by omega
   have hwk : IntKind.i64.wrap (k : Int) = (k : Int) := IntWalk.i64_in _ (by omega)
   have hxk := HK.out _ (List.getElem_mem hl)
   have htk : l.take (k + 1) = l.take k ++ [l[k]] := List.take_succ_eq_append_getElem hl
   generalize l[k] = x at *
   obtain ⟨B, hB⟩ : ∃ B, B = (l.take k).foldl (fun b a => Tb.addKey b a.key) b0 := ⟨_, rfl⟩
   have hBl : B.length = b0.length := by rw [hB]; exact bits_len _ _
   have hb := HB.out
   rw [← hB] at hb
   have hU := (Below.refl wr.heap.size wr).alloc (Nat.le_refl _) (.cells #[.int .i64 x.s, .int .i64 x.k, .int .u64 (x.t : Int), .int .u64 (x.v : Int), .int .i64 x.x] 27)
   have hky := fun W => key_any x hxk W
   unfold It.val at hky
   have HKY := Lib.hid hky
   have HU := Lib.hid hU
   have HBB := Lib.hid (And.intro hb (And.intro hB hBl))
   have HT := Lib.hid htk
   clear hky hU hb hB hBl htk
   go_wp2_with fail
   refine (HKY.out _).mono ?_
   rintro e w2 ⟨A2, c2, rfl, hr2, _, _, hb2⟩
   have hbw := later_ HU.out hb2
   have had := bladd_any f g B A2 10 c2 x.key w2 (HBB.out.1.1.below hbw) (by rw [HBB.out.2.2]; exact hb1.1) (by rw [HBB.out.2.2]; exact hb1.2) (by omega) hr2
   have HAD := Lib.hid had
   have HBW := Lib.hid hbw
   clear had hbw hr2 hb2 HKY HU
   go_wp2_with fail
   refine HAD.out.mono ?_
   rintro e w3 ⟨rfl, q1, q2⟩
   have hfin : Below w.heap.size w w3 := by
    have h3 := HBB.out.1.2.trans (HBW.out.mono HBB.out.1.2.size)
    exact h3.trans (q2.below h3.size (fun x hx => by rw [List.mem_singleton.1 hx]; exact HH.out.2.2.1))
   have hfo : (l.take (k + 1)).foldl (fun b a => Tb.addKey b a.key) b0 = Tb.addKey B x.key := by rw [HT.out, List.foldl_append, ← HBB.out.2.1]; rfl
   have HF := Lib.hid (And.intro (hfo ▸ q1 : BlAt w3 f g ((l.take (k + 1)).foldl (fun b a => Tb.addKey b a.key) b0)) hfin)
   clear q1 q2 hfin hfo HAD HBW
   go_wp2
   go_roundw
   case rel => exact ⟨k + 1, by omega, by go_num, HF⟩
   case measure => simp [intOf]; omega
  ·have hki : ((k : Int) < (m : Int)) = False := eq_false (by omega)
   have hall : l.take k = l := List.take_of_length_le (by omega)
   have hb := HB.out
   rw [hall] at hb
   have HF := Lib.hid hb
   clear hb HB hall
   go_wp2
   go_ret
   exact ⟨f, g, rfl, HF.out.1, HH.out.2.1, HH.out.2.2.1, HF.out.2⟩
end
section
open Go Go.RowKit Go.Lib
theorem Tb.blocks_snoc (l : List (List It)) (r : List It) : Tb.blocks (l ++ [r]) = Tb.blocks l ++ Fr.put 2 (It.bytes r) := by simp [Tb.blocks]
theorem Tb.index_snoc : ∀ (p : Nat) (l : List (List It)) (r : List It), Tb.index p (l ++ [r]) = (Tb.index p l ++ Pn.put (p + (Tb.blocks l).length)) ++ It.bytes (r.take 1)
 | p, [], r => by simp [Tb.index, Tb.blocks]
 | p, x :: l, r => by
  have h := Tb.index_snoc (p + (Fr.put 2 (It.bytes x)).length) l r
  show Pn.put p ++ (It.bytes (x.take 1) ++ Tb.index (p + (Fr.put 2 (It.bytes x)).length) (l ++ [r])) = _
  rw [h]
  have e : p + (Tb.blocks (x :: l)).length = p + (Fr.put 2 (It.bytes x)).length + (Tb.blocks l).length := by
   simp only [Tb.blocks, List.flatMap_cons, List.length_append]
   omega
  rw [e]
  show _ = ((Pn.put p ++ (It.bytes (x.take 1) ++ Tb.index (p + (Fr.put 2 (It.bytes x)).length) l)) ++ _) ++ _
  simp only [List.append_assoc]
theorem Tb.blocks_len : ∀ (l : List (List It)), (∀ r ∈ l, r.length ≤ 20) → (Tb.blocks l).length ≤ 662 * l.length
 | [], _ => by simp [Tb.blocks]
 | r :: l, h => by
  have h1 := Tb.blocks_len l (fun x hx => h x (List.mem_cons_of_mem _ hx))
  have h2 := It.bytes_len r
  have h3 := h r List.mem_cons_self
  have e : (Tb.blocks (r :: l)).length = (Fr.put 2 (It.bytes r)).length + (Tb.blocks l).length := by simp [Tb.blocks]
  rw [e, Fr.put_length, List.length_cons]
  omega
theorem Tb.bits_size (l : List It) : (Tb.bits l).length = Tb.fsize l.length := by
 unfold Tb.bits
 have h : ∀ (l : List It) (b : List UInt8), (l.foldl (fun b a => Tb.addKey b a.key) b).length = b.length := fun l b => bits_len l b
 rw [h, List.length_replicate]
theorem Tb.filt_len (l : List It) (h : l.length ≤ 2000) : (Tb.filt l).length ≤ 3000 := by
 have h1 := Pn.put_len 7
 have h2 := Pn.put_len (Tb.bits l).length
 have h3 := Tb.bits_size l
 unfold Tb.filt
 simp only [List.length_append]
 unfold Tb.fsize at h3
 omega
def TmkPost (w : World) (l : List It) (e : Ending) (w' : World) : Prop :=
 (Tb.good l = true ∧ ∃ A' M c', e = .returned (.tuple #[.slice A' M c', .int .i64 0]) ∧ w'.ownsRow w.heap.size 5 1 (.slice A' M c') M (bts (Tb.make l)) ∧ M ≤ c' ∧ c' ≤ maxLen ∧ Below w.heap.size w w') ∨
 (Tb.good l = false ∧ ∃ er : Nat, er ≠ 0 ∧ e = .returned (.tuple #[.slice none 0 0, .int .i64 (er : Int)]) ∧ Below w.heap.size w w')
theorem tbmake_any (L : Option Addr) (m d : Nat) (l : List It) (w : World) (hm : m ≤ 1000000) (hmd : m ≤ d) (hq : Row w.heap.size w L m 5 (itc l)) (hf : ∀ x ∈ l, x.fit) :
  Calls Tryz.prog 170 #[.slice L m d] w (TmkPost w l) := by
 have hmn := hq.itlen
 have hri := irises_any L m d l w hm hq
 have hca := fun (W : World) (hb : Below w.heap.size w W) => ihas_cap 217 (fun _ _ => rfl) #[] (fun x => !x.ok) L m d l W hm ((hq.below hb).up hb.size) (fun x w1 _ => tmake1_any x w1)
 simp only [any_nok] at hca
 obtain ⟨rb, hrb⟩ : ∃ rb, rb = decide (Rises l) := ⟨_, rfl⟩
 obtain ⟨ab, hab⟩ : ∃ ab, ab = l.all It.ok := ⟨_, rfl⟩
 have hgd : Tb.good l = (decide (m ≤ 2000) && rb && ab) := by unfold Tb.good; rw [hrb, hab, hmn]
 have hgood : ∀ {b}, Tb.good l = b → (decide (m ≤ 2000) && rb && ab) = b := fun e => by rw [← hgd]; exact e
 have hbad : ∀ w' (er : Nat), (decide (m ≤ 2000) && rb && ab) = false → er ≠ 0 → Below w.heap.size w w' → TmkPost w l (.returned (.tuple #[.slice none 0 0, .int .i64 (er : Int)])) w' := fun w' er h1 h2 h3 => .inr ⟨by rw [hgd]; exact h1, er, h2, rfl, h3⟩
 have hct := fun (hm2 : m ≤ 2000) (W : World) (hb : Below w.heap.size w W) => bcut_any L m d l W hm2 hmd ((hq.below hb).up hb.size)
 have hfi := fun (hm2 : m ≤ 2000) (hk : ∀ x ∈ l, x.ok = true) (W : World) (hb : Below w.heap.size w W) => tfilter_any L m d l W hm2 ((hq.below hb).up hb.size) hk
 rw [← hrb] at hri
 rw [← hab] at hca
 have hokl : ab = true → ∀ x ∈ l, x.ok = true := fun h => by rw [hab] at h; exact fun x hx => List.all_eq_true.1 h x hx
 have HGD := Lib.hid hgd
 have HBAD := Lib.hid hbad
 have HRI := Lib.hid hri
 have HCA := Lib.hid hca
 have HCT := Lib.hid hct
 have HFI := Lib.hid hfi
 have HOK := Lib.hid hokl
 clear hgd hgood hbad hri hca hct hfi hokl hrb hab
 by_cases hm2 : m ≤ 2000
 ·have hd : decide (m ≤ 2000) = true := decide_eq_true hm2
  have hmi : ((2000 : Int) < (m : Int)) = False := eq_false (by omega)
  simp only [hd, Bool.true_and] at HGD HBAD
  go_enter Tryz.func170, Tryz.ntmps170
  go_wp2_with fail
  refine HRI.out.mono ?_
  rintro e w1 ⟨rfl, hb1⟩
  cases rb with
  | false =>
   go_wp2
   go_ret2
   exact HBAD.out _ 1 rfl (by omega) hb1
  | true =>
   go_wp2_with fail
   refine (HCA.out _ hb1).mono ?_
   rintro e w2 ⟨rfl, hb2⟩
   have hbz := later_ hb1 hb2
   cases ab with
   | false =>
    go_wp2
    go_ret2
    exact HBAD.out _ 1 rfl (by omega) hbz
   | true =>
    go_wp2_with fail
    refine (HCT.out hm2 _ hbz).mono ?_
    rintro e w3 ⟨P, K, cp, rfl, hKc, hcp, hrows, hb3⟩
    have hgo : Tb.good l = true := HGD.out
    have hw3 := later_ hbz hb3
    obtain ⟨R, hR⟩ : ∃ R, R = Tb.rows l := ⟨_, rfl⟩
    have hR2 : Tb.cut 20 m l = R := by rw [hR]; unfold Tb.rows; rw [hmn]
    rw [hR2] at hrows
    have hKR := hrows.len
    have hK100 : K ≤ 100 := by
     have h1 := Tb.cut_len 20 (by omega) m l
     rw [hR2, hKR, hmn] at h1
     omega
    have hmay : ∀ r ∈ R, Tb.may r = true ∧ r.length ≤ 20 ∧ r ≠ [] ∧ ∀ y ∈ r, y.ok = true ∧ y.fit := fun r hr => by
     have h1 := Tb.rows_may hgo hf r (by rw [← hR]; exact hr)
     obtain ⟨h2, h3, _⟩ := Tb.cut_mem 20 (by omega) m l r (by rw [hR2]; exact hr)
     refine ⟨h1.1, h3, h2, fun y hy => ⟨?_, h1.2.2 y hy⟩⟩
     have h4 := h1.1
     simp only [Tb.may, Bool.and_eq_true, List.all_eq_true] at h4
     exact h4.2 y hy
    have HH := Lib.hid (And.intro hrows (And.intro hw3 (And.intro hmay (And.intro hgo hR))))
    clear hrows hw3 hmay hgo hR hR2 hbz hb1 hb2 hb3 HCT HCA HRI HBAD HGD
    go_wp2_with fail
    go_loopw [4, 5, 24] (fun s4 s5 i wr => ∃ (k n4 c4 n5 c5 : Nat) (A4 A5 : Option Addr), k ≤ K ∧ s4 = .slice A4 n4 c4 ∧ s5 = .slice A5 n5 c5 ∧ i = .int .i64 (k : Int) ∧ n4 ≤ 66200 ∧ n5 ≤ 5200 ∧
      Hid (n4 = (Tb.blocks (R.take k)).length ∧ Row wr.heap.size wr A4 n4 1 (bts (Tb.blocks (R.take k))) ∧ n4 ≤ c4 ∧ c4 ≤ maxLen ∧ Row wr.heap.size wr A5 n5 1 (bts (Tb.index 0 (R.take k))) ∧ n5 ≤ c5 ∧ c5 ≤ maxLen ∧ Below w3.heap.size w3 wr))
     (fun _ _ i _ => K - (intOf i).toNat)
    case atStart => exact ⟨0, 0, 0, 0, 0, none, none, by omega, rfl, rfl, rfl, by omega, by omega, Lib.hid ⟨by simp [Tb.blocks], Row.nil_, Nat.le_refl _, Nat.zero_le _, Row.nil_, Nat.le_refl _, Nat.zero_le _, Below.refl _ _⟩⟩
    case round =>
     obtain ⟨k, n4, c4, n5, c5, A4, A5, hkK, rfl, rfl, rfl, hn4, hn5, HB0⟩ := hrel
     have HN4 := Lib.hid HB0.out.1
     have HB := Lib.hid HB0.out.2
     clear HB0
     by_cases hlt : k < K
     ·have hki : (k : Int) < (K : Int) := by omega
      have hwk : IntKind.i64.wrap (k : Int) = (k : Int) := IntWalk.i64_in _ (by omega)
      obtain ⟨a, A, n, c, hl, rfl, hab, hcl, hnc, hcc, hrow⟩ := (HH.out.1.below HB.out.2.2.2.2.2.2).at_ hlt
      obtain ⟨hmr, hl20, hne, hokr⟩ := HH.out.2.2.1 _ (List.getElem_mem hl)
      have htk : R.take (k + 1) = R.take k ++ [R[k]] := List.take_succ_eq_append_getElem hl
      generalize R[k] = r at *
      have hnr := hrow.itlen
      have hn0 : 0 < n := by
       rcases Nat.eq_zero_or_pos n with h | h
       ·exact absurd (List.length_eq_zero_iff.1 (by omega)) hne
       ·exact h
      have h1c : (1 : Int) ≤ (c : Int) := by omega
      have hwu : IntKind.u64.wrap (n4 : Int) = (n4 : Int) := by simp [IntKind.wrap_u64]; omega
      have hrw : Row wr.heap.size wr A n 5 (itc r) := hrow.up HB.out.2.2.2.2.2.2.size
      have hr1 : Row wr.heap.size wr A 1 5 (itc (r.take 1)) := by rw [itc_take]; exact hrw.pre (by omega)
      have hp := put_any A5 n5 c5 (Tb.index 0 (R.take k)) n4 (by omega) wr (by omega) HB.out.2.2.2.1
      obtain ⟨n6, hn6⟩ : ∃ n6, n6 = n5 + (Pn.put n4).length := ⟨_, rfl⟩
      rw [← hn6] at hp
      have hn6b : n6 ≤ 5300 := by have := Pn.put_len n4; omega
      clear hn6
      have HP := Lib.hid hp
      have HR1 := Lib.hid hr1
      have HRW := Lib.hid hrw
      have HT := Lib.hid (And.intro htk (And.intro hmr hokr))
      have HNR := Lib.hid hnr
      have HKR := Lib.hid hKR
      clear hp hr1 hrw htk hmr hokr hrow hne hnr hKR
      go_wp2_with fail
      refine HP.out.mono ?_
      rintro e w4 ⟨A6, c6, rfl, ho6, hc6, hm6, hb6⟩
      have hib := ibytes_any A6 n6 c6 (Tb.index 0 (R.take k) ++ Pn.put n4) A 1 c (r.take 1) w4 (by omega) (by omega) (Row.own ho6) ((HR1.out.below hb6).up hb6.size) (fun x hx => HT.out.2.2 x (List.mem_of_mem_take hx))
      have HIB := Lib.hid hib
      have HB6 := Lib.hid hb6
      clear hib ho6 hb6 HP HR1
      go_wp2_with fail
      refine HIB.out.mono ?_
      rintro e w5 ⟨A7, n7, c7, rfl, ho7, hc7, hm7, hb7⟩
      have hb45 := later_ HB6.out hb7
      have hbp := bput_any A4 n4 c4 (Tb.blocks (R.take k)) A n c r w5 (by omega) HB.out.2.1 HB.out.2.2.1 (by have := HNR.out; omega) ((HB.out.1.below hb45).up hb45.size) ((HRW.out.below hb45).up hb45.size) HT.out.2.1 (fun x hx => (HT.out.2.2 x hx).2)
      have HBP := Lib.hid hbp
      have HO7 := Lib.hid (And.intro (Row.own ho7) (And.intro hc7 (And.intro hm7 hb45)))
      clear hbp ho7 hb45 hb7 HIB HB6
      go_wp2_with fail
      refine HBP.out.mono ?_
      rintro e w6 ⟨A8, n8, c8, rfl, ho8, hc8, hm8, hb8⟩
      have hb46 := later_ HO7.out.2.2.2 hb8
      have hrA := Row.own ho8
      have hrB := (HO7.out.1.below hb8).up hb8.size
      have hfin : Tb.blocks (R.take (k + 1)) = Tb.blocks (R.take k) ++ Fr.put 2 (It.bytes r) := by rw [HT.out.1, Tb.blocks_snoc]
      have hfin2 : Tb.index 0 (R.take (k + 1)) = (Tb.index 0 (R.take k) ++ Pn.put n4) ++ It.bytes (r.take 1) := by rw [HT.out.1, Tb.index_snoc, Nat.zero_add, HN4.out]
      rw [← hfin] at hrA
      rw [← hfin2] at hrB
      have hlA := hrA.btlen
      have hlB := hrB.btlen
      have hkl : (R.take (k + 1)).length ≤ 100 := by rw [List.length_take]; have := HKR.out; omega
      have hlA2 := Tb.blocks_len (R.take (k + 1)) (fun x hx => (HH.out.2.2.1 x (List.mem_of_mem_take hx)).2.1)
      have hlB2 := Tb.index_len 0 (R.take (k + 1))
      have h8b : n8 ≤ 66200 := by omega
      have h7b : n7 ≤ 5200 := by omega
      have HF := Lib.hid (And.intro hlA.symm (And.intro hrA (And.intro hc8 (And.intro hm8 (And.intro hrB (And.intro HO7.out.2.1 (And.intro HO7.out.2.2.1 (later_ HB.out.2.2.2.2.2.2 hb46))))))))
      clear hb46 hrA hrB hfin hfin2 hlA hlB hlA2 hlB2 hb8 ho8 HO7 HBP
      go_wp2
      go_roundw
      case rel => exact ⟨k + 1, n8, c8, n7, c7, A8, A7, by omega, rfl, rfl, by go_num, h8b, h7b, HF⟩
      case measure => simp [intOf]; omega
     ·have hki : ((k : Int) < (K : Int)) = False := eq_false (by omega)
      have hall : R.take k = R := List.take_of_length_le (by omega)
      rw [hall] at HB HN4
      clear hall
      have hwm : IntKind.u64.wrap (m : Int) = (m : Int) := by simp [IntKind.wrap_u64]; omega
      have hwu : IntKind.u64.wrap (n4 : Int) = (n4 : Int) := by simp [IntKind.wrap_u64]; omega
      have hp := put_any none 0 0 [] n4 (by omega) wr (by omega) Row.nil_
      simp only [Nat.zero_add, List.nil_append] at hp
      have hq0 := ((hq.below HH.out.2.1).up HH.out.2.1.size).below HB.out.2.2.2.2.2.2
      have hq1 := hq0.up HB.out.2.2.2.2.2.2.size
      obtain ⟨n6, hn6⟩ : ∃ n6, n6 = (Pn.put n4).length := ⟨_, rfl⟩
      rw [← hn6] at hp
      have hn6b : n6 ≤ 10 := by have := Pn.put_len n4; omega
      have HP := Lib.hid hp
      have HQ := Lib.hid hq1
      clear hp hn6 hq0 hq1 hq
      go_wp2_with fail
      refine HP.out.mono ?_
      rintro e w4 ⟨A6, c6, rfl, ho6, hc6, hm6, hb6⟩
      have hfp := fput_any A4 n4 c4 (Tb.blocks R) 3 A5 n5 c5 (Tb.index 0 R) w4 (by omega) HB.out.2.1 HB.out.2.2.1 ((HB.out.1.below hb6).up hb6.size) (by omega) (by omega) (by omega) HB.out.2.2.2.2.1 HB.out.2.2.2.2.2.1 ((HB.out.2.2.2.1.below hb6).up hb6.size)
      have HFP := Lib.hid hfp
      have HO6 := Lib.hid (And.intro (Row.own ho6) hb6)
      clear hfp ho6 hb6 HP
      go_wp2_with fail
      refine HFP.out.mono ?_
      rintro e w5 ⟨A7, n7, c7, rfl, ho7, hc7, hm7, hb7⟩
      have hb57 := later_ HO6.out.2 hb7
      have hr7 := Row.own ho7
      have hl7 : n7 ≤ 71412 := by
       have h1 := hr7.btlen
       have h2 := HB.out.1.btlen
       have h3 := HB.out.2.2.2.1.btlen
       rw [List.length_append, Fr.put_length] at h1
       omega
      have hl7e := hr7.btlen
      have hw7 : IntKind.u64.wrap (n7 : Int) = (n7 : Int) := by simp [IntKind.wrap_u64]; omega
      have hp2 := put_any A6 n6 c6 (Pn.put n4) n7 (by omega) w5 (by omega) ((HO6.out.1.below hb7).up hb7.size)
      obtain ⟨n8, hn8⟩ : ∃ n8, n8 = n6 + (Pn.put n7).length := ⟨_, rfl⟩
      rw [← hn8] at hp2
      have hn8b : n8 ≤ 20 := by have := Pn.put_len n7; omega
      have HP2 := Lib.hid hp2
      have HO7 := Lib.hid (And.intro hr7 (And.intro hc7 (And.intro hm7 (And.intro hb57 hl7e))))
      clear hp2 hn8 hr7 hb57 hl7e ho7 hb7 HO6 HFP
      go_wp2_with fail
      refine HP2.out.mono ?_
      rintro e w6 ⟨A8, c8, rfl, ho8, hc8, hm8, hb8⟩
      have hb36 := HB.out.2.2.2.2.2.2.trans ((later_ HO7.out.2.2.2.1 hb8).mono HB.out.2.2.2.2.2.2.size)
      have hfi := HFI.out hm2 (HOK.out trivial) w6 (later_ HH.out.2.1 hb36)
      have HF1 := Lib.hid hfi
      have HO8 := Lib.hid (And.intro (Row.own ho8) (And.intro hb8 hb36))
      clear hfi ho8 hb8 hb36 HP2
      go_wp2_with fail
      refine HF1.out.mono ?_
      rintro e w7 ⟨f, g, rfl, hbl, hfw, hgw, hb9⟩
      have hbs : (Tb.bits l).length ≤ 3000 := by rw [Tb.bits_size]; unfold Tb.fsize; omega
      have hbb := blbytes_any f g (Tb.bits l) w7 hbl hbs
      have HBB := Lib.hid hbb
      have HB9 := Lib.hid hb9
      clear hbb hbl hfw hgw hb9 HF1 hbs
      go_wp2_with fail
      refine HBB.out.mono ?_
      rintro e w8 ⟨A10, n10, c10, rfl, ho10, hc10, hm10, hb10⟩
      have hb68 := later_ HB9.out hb10
      have hb58 := later_ HO8.out.2.1 hb68
      have hr10 := Row.own ho10
      have hl10 : n10 ≤ 3000 := by
       have h1 := hr10.btlen
       have h2 := Tb.filt_len l (by omega)
       rw [← h1]
       exact h2
      have hfp2 := fput_any A7 n7 c7 (Tb.blocks R ++ Fr.put 3 (Tb.index 0 R)) 4 A10 n10 c10 (blb (Tb.bits l)) w8 (by omega) HO7.out.2.1 HO7.out.2.2.1 ((HO7.out.1.below hb58).up hb58.size) (by omega) (by omega) (by omega) hc10 hm10 hr10
      have HFP2 := Lib.hid hfp2
      have HO9 := Lib.hid (And.intro hb58 (And.intro hb68 hr10.btlen))
      clear hfp2 ho10 hr10 hb68 hb58 hb10 HBB HB9
      go_wp2_with fail
      refine HFP2.out.mono ?_
      rintro e w9 ⟨A11, n11, c11, rfl, ho11, hc11, hm11, hb11⟩
      have hr11 := Row.own ho11
      have hl11 : n11 ≤ 74424 := by
       have h1 := hr11.btlen
       rw [List.length_append, Fr.put_length, HO7.out.2.2.2.2, HO9.out.2.2] at h1
       omega
      have hb69 := later_ HO9.out.2.1 hb11
      have hp3 := put_any A8 n8 c8 (Pn.put n4 ++ Pn.put n7) m (by omega) w9 (by omega) ((HO8.out.1.below hb69).up hb69.size)
      obtain ⟨n12, hn12⟩ : ∃ n12, n12 = n8 + (Pn.put m).length := ⟨_, rfl⟩
      rw [← hn12] at hp3
      have hn12b : n12 ≤ 30 := by have := Pn.put_len m; omega
      have HP3 := Lib.hid hp3
      have HO11 := Lib.hid (And.intro hr11 (And.intro hc11 (And.intro hm11 hb69)))
      clear hp3 hn12 hr11 hb69 ho11 hb11 HFP2
      go_wp2_with fail
      refine HP3.out.mono ?_
      rintro e w10 ⟨A12, c12, rfl, ho12, hc12, hm12, hb12⟩
      have hfp3 := fput_any A11 n11 c11 ((Tb.blocks R ++ Fr.put 3 (Tb.index 0 R)) ++ Fr.put 4 (blb (Tb.bits l))) 5 A12 n12 c12 ((Pn.put n4 ++ Pn.put n7) ++ Pn.put m) w10 (by omega) HO11.out.2.1 HO11.out.2.2.1 ((HO11.out.1.below hb12).up hb12.size) (by omega) (by omega) (by omega) hc12 hm12 (Row.own ho12)
      have HFP3 := Lib.hid hfp3
      have HO12 := Lib.hid hb12
      clear hfp3 ho12 hb12 HP3
      go_wp2_with fail
      refine HFP3.out.mono ?_
      rintro e w11 ⟨A13, n13, c13, rfl, ho13, hc13, hm13, hb13⟩
      have hz1 := later_ (HO8.out.2.2.trans ((later_ (later_ HO11.out.2.2.2 HO12.out) hb13).mono HO8.out.2.2.size)) (Below.refl _ _)
      have hz := later_ HH.out.2.1 hz1
      have hmk : ((Tb.blocks R ++ Fr.put 3 (Tb.index 0 R)) ++ Fr.put 4 (blb (Tb.bits l))) ++ Fr.put 5 ((Pn.put n4 ++ Pn.put n7) ++ Pn.put m) = Tb.make l := by
       have e1 := HN4.out
       have e2 := HO7.out.2.2.2.2
       unfold Tb.make
       have e3 : Tb.rows l = R := HH.out.2.2.2.2.symm
       show _ = (Tb.blocks (Tb.rows l) ++ Fr.put 3 (Tb.index 0 (Tb.rows l))) ++ (Fr.put 4 (Tb.filt l) ++ Fr.put 5 (Pn.put (Tb.blocks (Tb.rows l)).length ++ (Pn.put (Tb.blocks (Tb.rows l) ++ Fr.put 3 (Tb.index 0 (Tb.rows l))).length ++ Pn.put l.length)))
       rw [e3, ← e1, e2, hmn]
       simp only [List.append_assoc]
       rfl
      rw [hmk] at ho13
      have hob := own_base ho13 (show w.heap.size ≤ w10.heap.size by have a1 := HH.out.2.1.size; have a2 := HO8.out.2.2.size; have a3 := HO11.out.2.2.2.size; have a4 := HO12.out.size; omega)
      have HF := Lib.hid (And.intro hob (And.intro hc13 (And.intro hm13 hz)))
      clear hob ho13 hz hz1 hb13 hmk HFP3
      go_wp2
      go_ret2
      exact .inl ⟨HH.out.2.2.2.1, A13, n13, c13, rfl, HF.out⟩
 ·have hd : decide (m ≤ 2000) = false := decide_eq_false hm2
  have hmi : ((2000 : Int) < (m : Int)) = True := eq_true (by omega)
  go_enter Tryz.func170, Tryz.ntmps170
  go_wp2
  go_ret2
  exact HBAD.out _ 2 (by rw [hd]; rfl) (by omega) (Below.refl _ _)
end
section
theorem unsgn_fit {n : Nat} (h : n < 18446744073709551616) : -9223372036854775808 ≤ unsgn n ∧ unsgn n < 9223372036854775808 := by
 unfold unsgn
 split <;> omega
namespace It
theorem take1_fit (b : List UInt8) (h : (take1 b).2.2 = 0) : (take1 b).1.fit := by
 have h0 : It.fit ⟨0, 0, 0, 0, 0⟩ := by unfold It.fit; exact ⟨by decide, by decide⟩
 unfold take1 at h ⊢
 split
 ·exact h0
 ·split
  ·split
   ·split
    ·rename_i x n3 e
     have h1 : ∀ q, Pn.take q = (x, n3, 0) → x < 18446744073709551616 := fun q hq => by
      have := Pn.take_lt q
      rw [hq] at this
      exact this
     exact unsgn_fit (h1 _ e)
    ·exact h0
   ·exact h0
  ·exact h0
theorem takes_fit : ∀ (n : Nat) (b : List UInt8) (out : List It), (∀ y ∈ out, y.fit) → ∀ y ∈ (takes n b out).1, y.fit
 | 0, b, out, h => h
 | n + 1, b, out, h => by
  unfold takes
  split
  ·rename_i x r e
   refine takes_fit n r _ (fun y hy => ?_)
   rcases List.mem_append.1 hy with h1 | h1
   ·exact h y h1
   ·rw [List.mem_singleton.1 h1]
    have := take1_fit b (by rw [e])
    rw [e] at this
    exact this
  ·intro y hy
   simp at hy
theorem read_fit (b : List UInt8) : ∀ y ∈ (read b).1, y.fit := by
 unfold read
 split
 ·split
  ·intro y hy
   simp at hy
  ·split
   ·rename_i out r e
    split
    ·intro y hy
     have h2 := takes_fit _ _ [] (fun y h => by simp at h) y (by rw [e]; exact hy)
     exact h2
    ·intro y hy
     simp at hy
   ·intro y hy
    simp at hy
 ·intro y hy
  simp at hy
end It
end
section
open Go Go.RowKit Go.Lib
theorem bequal_any (A : Option Addr) (n c : Nat) (a : List UInt8) (B : Option Addr) (m d : Nat) (b : List UInt8) (w : World) (ha : Row w.heap.size w A n 1 (bts a)) (hb : Row w.heap.size w B m 1 (bts b)) :
  Calls Tryz.prog 196 #[.slice A n c, .slice B m d] w fun e w' => e = .returned (.bool (a == b)) ∧ w' = w := by
 have c1 := conv_b ha c
 have c2 := conv_b hb d
 go_enter Tryz.func196, Tryz.ntmps196
 go_wp2
 go_ret
 exact ⟨by simp, rfl⟩
theorem info_rowB : (Tryz.prog.info? 24).map (fun i => (i.zero, i.size, i.bytes)) = some (some (.slice none 0 0), 1, 24) := by kernel_rfl
def TbAt (w : World) (f : Nat) (rs : List (List It)) : Prop := ∃ P n c cnt, cnt = rs.flatten.length ∧ BoxO w 271 f [.slice P n c, .int .i64 ((cnt : Nat) : Int), .int .u32 0, .int .i32 0, .int .u32 0, .pointer none] ∧ n ≤ c ∧ c ≤ maxLen ∧ IRows w.heap.size w P n rs
def Sames (b h : Nat) (w w' : World) : Prop := h ≤ w'.heap.size ∧ ∀ g, b ≤ g → g < h → w'.heap[g]? = w.heap[g]?
theorem Sames.of_chg {F : List Nat} {b : Nat} {w w' : World} (c : Chg F w w') (hF : ∀ g ∈ F, g < b) : Sames b w.heap.size w w' := ⟨c.size, fun g h1 h2 => c.block g h2 (fun hm => by have := hF g hm; omega)⟩
theorem Row.sames {B n size b h : Nat} {w w' : World} {A : Option Addr} {xs : List Value} (hr : Row B w A n size xs) (hs : Sames b h w w') (hB : B ≤ h) (hA : ∀ a, A = some a → b ≤ a.block) : Row B w' A n size xs := by
 refine ⟨hr.len, fun j hj => ?_⟩
 obtain ⟨a, e, h1, h2⟩ := hr.cell j hj
 refine ⟨a, e, h1, ?_⟩
 rw [World.cell?_of_block (w := w) (by rw [add_block]; exact hs.2 a.block (hA a e) (by omega))]
 exact h2
def HRows (b : Nat) (no : Option Nat) (w : World) (ls : List (List It)) (vs : List Value) : Prop := ls.length = vs.length ∧ ∀ i (h : i < ls.length), ∃ A k c, vs[i]? = some (.slice A k c) ∧ k ≤ c ∧ c ≤ maxLen ∧ Row w.heap.size w A k 5 (itc ls[i]) ∧ ∀ a, A = some a → b ≤ a.block ∧ a.block < w.heap.size ∧ some a.block ≠ no
theorem HRows.step {b : Nat} {no no' : Option Nat} {w w' : World} {ls : List (List It)} {vs : List Value} (hh : HRows b no w ls vs) (hs : w.heap.size ≤ w'.heap.size) (hk : ∀ g, b ≤ g → g < w.heap.size → some g ≠ no → w'.heap[g]? = w.heap[g]?) (hn : ∀ g, g < w.heap.size → some g ≠ no → some g ≠ no') : HRows b no' w' ls vs := by
 refine ⟨hh.1, fun i hi => ?_⟩
 obtain ⟨A, k, c, h1, h2, h3, h4, h5⟩ := hh.2 i hi
 refine ⟨A, k, c, h1, h2, h3, ⟨h4.len, fun j hj => ?_⟩, fun a ha => ⟨(h5 a ha).1, by have := (h5 a ha).2.1; omega, hn _ (h5 a ha).2.1 (h5 a ha).2.2⟩⟩
 obtain ⟨a, e, q1, q2⟩ := h4.cell j hj
 refine ⟨a, e, by omega, ?_⟩
 rw [World.cell?_of_block (w := w) (by rw [add_block]; exact hk _ (h5 a e).1 (h5 a e).2.1 (h5 a e).2.2)]
 exact q2
theorem HRows.row {b : Nat} {no : Option Nat} {w : World} {ls : List (List It)} {vs : List Value} (hh : HRows b no w ls vs) {P : Option Addr} {n : Nat} (hr : Row w.heap.size w P n 1 vs) : IRows w.heap.size w P n ls :=
 ⟨vs, hr, by have := hr.len; have := hh.1; omega, fun i hi => let ⟨A, k, c, h1, h2, h3, h4, _⟩ := hh.2 i hi; ⟨A, k, c, h1, h2, h3, h4⟩⟩
theorem HRows.snoc {b : Nat} {no : Option Nat} {w : World} {ls : List (List It)} {vs : List Value} (hh : HRows b no w ls vs) {l : List It} {A : Option Addr} {k c : Nat} (h1 : k ≤ c) (h2 : c ≤ maxLen) (h3 : Row w.heap.size w A k 5 (itc l)) (h4 : ∀ a, A = some a → b ≤ a.block ∧ a.block < w.heap.size ∧ some a.block ≠ no) : HRows b no w (ls ++ [l]) (vs ++ [.slice A k c]) := by
 refine ⟨by rw [List.length_append, List.length_append, hh.1]; rfl, fun i hi => ?_⟩
 rw [List.length_append] at hi
 rcases Nat.lt_or_ge i ls.length with q1 | q1
 ·obtain ⟨A, k, c, z1, z2, z3, z4, z5⟩ := hh.2 i q1
  refine ⟨A, k, c, by rw [List.getElem?_append_left (by have := hh.1; omega)]; exact z1, z2, z3, ?_, z5⟩
  rw [List.getElem_append_left q1]
  exact z4
 ·have q2 : i = ls.length := by simp at hi; omega
  subst q2
  refine ⟨A, k, c, by rw [hh.1]; simp, h1, h2, ?_, h4⟩
  rw [List.getElem_append_right (Nat.le_refl _)]
  simp only [Nat.sub_self, List.getElem_cons_zero]
  exact h3
theorem TbAt.of {b f cnt : Nat} {w W : World} {v : Value} {vs : List Value} {rs : List (List It)} {no : Option Nat} (hc : cnt = rs.flatten.length) (hf : b ≤ f) (hx : BoxO w 271 f [v, .int .i64 (cnt : Int), .int .u32 0, .int .i32 0, .int .u32 0, .pointer none]) (ho : w.ownsRow b 24 1 v rs.length vs) (hh : HRows b none w rs vs) (hs : Sames b w.heap.size w W) : TbAt W f rs := by
 have hx2 : BoxO W 271 f _ := (hs.2 f hf hx.lt).trans hx
 obtain ⟨P, c, rfl, h1, h2, h3⟩ := own_form ho
 refine ⟨P, _, c, cnt, hc, hx2, h1, h2, ?_⟩
 have hr := ((Row.own ho).sames hs (Nat.le_refl _) (fun a ha => (h3 a ha).1)).up hs.1
 exact (hh.step (no' := none) hs.1 (fun g h4 h5 _ => hs.2 g h4 h5) (fun g _ h => h)).row hr
theorem tall_any (f cnt : Nat) (rs : List (List It)) (w : World) (h : TbAt w f rs) (hcnt : cnt = rs.flatten.length) (hn : rs.length ≤ 1000000) (hb : cnt ≤ 1000000) :
  Calls Tryz.prog 142 #[.pointer (some ⟨f, 0, none⟩)] w fun e w' => ∃ A' c', e = .returned (.slice A' cnt c') ∧
   w'.ownsRow w.heap.size 27 5 (.slice A' cnt c') cnt (itc rs.flatten) ∧ cnt ≤ c' ∧ c' ≤ maxLen ∧ Below w.heap.size w w' := by
 obtain ⟨P, n, c, _, _, hbx, _, _, hr⟩ := h
 have hc0 := hbx.cell 0
 simp only [gE0] at hc0
 have hic := iconcat_any P n c rs w (by have := hr.len; omega) (by omega) hr
 rw [← hcnt] at hic
 have HC := Lib.hid hic
 clear hbx hr hic hcnt
 go_enter Tryz.func142, Tryz.ntmps142
 go_wp2_with fail
 refine HC.out.mono ?_
 rintro e w1 ⟨A', c', rfl, h1⟩
 have HF := Lib.hid h1
 clear h1 HC
 go_wp2
 go_ret
 exact ⟨A', c', rfl, HF.out⟩
def TrdPost (w : World) (b : List UInt8) (e : Ending) (w' : World) : Prop := Below w.heap.size w w' ∧
 ((Tb.open_ b = none ∧ ∃ er : Nat, er ≠ 0 ∧ e = .returned (.tuple #[.pointer none, .int .i64 (er : Int)])) ∨
  (∃ rs, Tb.open_ b = some rs ∧ ∃ f, e = .returned (.tuple #[.pointer (some ⟨f, 0, none⟩), .int .i64 0]) ∧ ∀ W, Sames w.heap.size w'.heap.size w' W → TbAt W f rs))
theorem bkTake_next {b : List UInt8} {p : Nat} (h : (bkTake b p).2.2 = 0) : p + 12 ≤ (bkTake b p).2.1 ∧ (bkTake b p).2.1 ≤ b.length ∧ (bkTake b p).1.length ≤ 100 ∧ Tb.may (bkTake b p).1 = true := by
 unfold bkTake at h ⊢
 split
 ·rename_i h1
  obtain ⟨h2, _, _, h3, h4⟩ := h1
  have h5 := Fr.take_next h2
  exact ⟨h5.1, h5.2, h3, h4⟩
 ·rename_i h1
  rw [if_neg h1] at h
  simp at h
theorem parse_step (f : Nat) (b : List UInt8) (p : Nat) : Tb.parse (f + 1) b p = if (bkTake b p).2.2 = 0 then (bkTake b p).1 :: Tb.parse f b (bkTake b p).2.1 else [] := by
 rw [Tb.parse]
 unfold bkTake
 split <;> simp
theorem tbread_any (A : Option Addr) (N c : Nat) (b : List UInt8) (w : World) (hN : N ≤ 100000) (hNc : N ≤ c) (hcm : c ≤ maxLen) (hr : Row w.heap.size w A N 1 (bts b)) :
  Calls Tryz.prog 137 #[.slice A N c] w (TrdPost w b) := by
 obtain ⟨i0, hi0, hz0, hz1, hz2⟩ := info_parts info_rowB
 have hln := hr.btlen
 have HR := Lib.hid hr
 have HLN := Lib.hid hln
 clear hr hln
 have hA0 := (Below.refl w.heap.size w).alloc (Nat.le_refl _) (.cells #[.slice none 0 0, .int .i64 0, .int .u32 0, .int .i32 0, .int .u32 0, .pointer none] 271)
 have hB0 := BoxO.new w #[.slice none 0 0, .int .i64 0, .int .u32 0, .int .i32 0, .int .u32 0, .pointer none] 271
 have HA0 := Lib.hid hA0
 have HB0 := Lib.hid hB0
 clear hA0 hB0
 go_enter Tryz.func137, Tryz.ntmps137
 go_wp2_with fail
 go_loopw [5] (fun at_ wr => ∃ (p fu cnt : Nat) (rs : List (List It)) (v : Value) (vs : List Value), at_ = .int .i64 (p : Int) ∧ p ≤ N ∧ rs.length * 12 ≤ p ∧ cnt ≤ rs.length * 100 ∧ Hid (cnt = rs.flatten.length ∧ N - p < fu ∧ rs ++ Tb.parse fu b p = Tb.parse (N + 1) b 0 ∧ (∀ r ∈ rs, ∀ y ∈ r, y.fit) ∧
   BoxO wr 271 w.heap.size [v, .int .i64 (cnt : Int), .int .u32 0, .int .i32 0, .int .u32 0, .pointer none] ∧ wr.ownsRow (w.heap.size + 1) 24 1 v rs.length vs ∧ HRows (w.heap.size + 1) v.ownBlock wr rs vs ∧ Below w.heap.size w wr))
  (fun i _ => N - (intOf i).toNat)
 case atStart => exact ⟨0, N + 1, 0, [], _, [], rfl, by omega, by simp, by omega, Lib.hid ⟨by simp, by omega, by simp, fun r h => (by simp at h), HB0.out, World.ownsRow_nil _ _ _ _, ⟨rfl, fun i h => absurd h (by simp)⟩, HA0.out⟩⟩
 case round =>
  obtain ⟨p, fu, cnt, rs, v, vs, rfl, hpN, hrp, hcn, HB⟩ := hrel
  have hbt := btake_any A N c b p wr (by omega) hNc hcm ((HR.out.below HB.out.2.2.2.2.2.2.2).up HB.out.2.2.2.2.2.2.2.size) hpN
  obtain ⟨T, hT⟩ : ∃ T, T = bkTake b p := ⟨_, rfl⟩
  obtain ⟨l, nx, er⟩ := T
  rw [← hT] at hbt
  have HBT := Lib.hid hbt
  have HT := Lib.hid hT
  clear hbt hT
  go_wp2_with fail
  refine HBT.out.mono ?_
  rintro e w1 ⟨A1, k1, c1, rfl, hk1, hit, hb1⟩
  simp only at hk1 hit
  have HI := Lib.hid (And.intro hk1 (And.intro hit hb1))
  have hbx := HB.out.2.2.2.2.1.below hb1
  have d0 := hbx.cell 0
  have d1 := hbx.cell 1
  simp only [gE0, gE1] at d0 d1
  have HX := Lib.hid hbx
  have hwlt : w.heap.size < wr.heap.size := HB.out.2.2.2.2.1.lt
  clear hk1 hit hb1 hbx HBT
  by_cases he : er = 0
  ·subst he
   obtain ⟨hn1, hn2, hn3, hn4⟩ := bkTake_next (b := b) (p := p) (by rw [← HT.out])
   rw [← HT.out] at hn1 hn2 hn3 hn4
   rw [HLN.out] at hn2
   simp only at hn1 hn2 hn3 hn4
   have hl0 : 0 < l.length := List.length_pos_iff.2 (by intro e; rw [e] at hn4; simp [Tb.may] at hn4)
   have hk0 : 0 < k1 := by rw [HI.out.1]; exact hl0
   have hk100 : k1 ≤ 100 := by rw [HI.out.1]; exact hn3
   obtain ⟨a1, rfl, ha1⟩ : ∃ a, A1 = some a ∧ a.block < w1.heap.size := by
    obtain ⟨a, e1, e2⟩ := HI.out.2.1.row.some_ (by rw [itc_length]; omega)
    exact ⟨a, e1, e2⟩
   have hl1 := HI.out.2.1.low a1 rfl
   have hvb : ∀ g, v.ownBlock = some g → g < wr.heap.size := by
    intro g hg
    rcases HB.out.2.2.2.2.2.1.2 with ⟨rfl, _⟩ | ⟨g', cap, cur, rfl, hb, hgb, _⟩
    ·simp [Value.ownBlock] at hg
    ·obtain rfl : g' = g := by simpa [Value.ownBlock] using hg
     exact (Array.getElem?_eq_some_iff.1 hgb).1
   have hrows1 : HRows (w.heap.size + 1) v.ownBlock w1 (rs ++ [l]) (vs ++ [.slice (some a1) k1 c1]) := by
    have h1 := HB.out.2.2.2.2.2.2.1.step (no' := v.ownBlock) HI.out.2.2.size (fun g _ h5 _ => HI.out.2.2.block g h5) (fun g _ h => h)
    refine h1.snoc HI.out.2.1.nc HI.out.2.1.cm HI.out.2.1.row (fun a ha => ?_)
    injection ha with ha
    subst ha
    refine ⟨by omega, ha1, fun e => ?_⟩
    have := hvb _ e.symm
    omega
   have HH1 := Lib.hid hrows1
   have HVB := Lib.hid hvb
   have HNX := Lib.hid (And.intro hn3 hn4)
   have hown1 := (own_below HB.out.2.2.2.2.2.1 HI.out.2.2).alloc (.cells #[.slice (some a1) k1 c1] 24)
   have HO1 := Lib.hid hown1
   have hbt := (Below.refl (w.heap.size + 1) w1).alloc (by have := HI.out.2.2.size; omega) (.cells #[.slice (some a1) k1 c1] 24)
   have HBT2 := Lib.hid hbt
   have hwk : IntKind.i64.wrap ((cnt : Int) + (k1 : Int)) = ((cnt + k1 : Nat) : Int) := by rw [IntWalk.i64_in _ (by omega)]; omega
   have hsz1 := HI.out.2.2.size
   clear hrows1 hvb hn3 hn4 hown1 hbt hl0
   go_wp2_with (at_builtin; refine stop_in ?_)
   refine stop_out (wpList_appF rfl (.tmp 26) (.tmp 28) _ rfl (w.heap.size + 1) 24 i0 _ 1 24 Tryz.underlying136 hi0 hz0 hz1 hz2 rfl (by omega) w1 HBT2.out (by rw [World.size_alloc]; omega) v rs.length vs rfl HO1.out _ (some ⟨w1.heap.size, 0, none⟩) 1 1 (by omega) [.slice (some a1) k1 c1] rfl (Row.new w1 #[.slice (some a1) k1 c1] 24 rfl) (by simp [Value.oneCell']) (rs.length + 1) _ rfl rfl (by unfold maxLen; omega) (by omega) ?_)
   intro A4 c4 w2 hown4 hb4 hg4 _ _ hat4
   have hx2 : BoxO w2 271 w.heap.size [v, .int .i64 (cnt : Int), .int .u32 0, .int .i32 0, .int .u32 0, .pointer none] := (hb4.block _ (by omega)).trans HX.out
   have e0 := hx2.cell 0
   have e1 := hx2.cell 1
   have e2 := hx2.free 0
   have e3 := hx2.free 1
   simp only [gE0, gE1] at e0 e1
   have HG := Lib.hid (And.intro hx2 (And.intro hown4 (And.intro hb4 (And.intro hg4 hat4))))
   clear hx2 hown4 hb4 hg4 hat4
   go_wp2
   go_roundw
   case rel =>
    obtain ⟨q1, q2, q3, q4, q5⟩ := HG.out
    have hvne : some w.heap.size ≠ v.ownBlock := by
     intro e
     rcases HB.out.2.2.2.2.2.1.2 with ⟨rfl, _⟩ | ⟨g', cap, cur, rfl, hb, hgb, _⟩
     ·simp [Value.ownBlock] at e
     ·simp [Value.ownBlock] at e
      omega
    have hv2 : some w.heap.size ≠ (Value.slice A4 (rs.length + 1) c4).ownBlock := by
     intro e
     rcases q5 with h | h
     ·rw [h] at e; exact hvne e
     ·rw [h, World.size_alloc] at e
      injection e with e
      omega
    have hst := (q1.store 0 (.slice A4 (rs.length + 1) c4)).store 1 (.int .i64 ((cnt + k1 : Nat) : Int))
    have hT := HT.out
    have hsizes : w2.heap.size = ((w2.setCell ⟨w.heap.size, 0, none⟩ (.slice A4 (rs.length + 1) c4)).setCell ⟨w.heap.size, 1, none⟩ (.int .i64 ((cnt + k1 : Nat) : Int))).heap.size := by simp
    have hoth : ∀ g, g ≠ w.heap.size → ((w2.setCell ⟨w.heap.size, 0, none⟩ (.slice A4 (rs.length + 1) c4)).setCell ⟨w.heap.size, 1, none⟩ (.int .i64 ((cnt + k1 : Nat) : Int))).heap[g]? = w2.heap[g]? := by
     intro g hg
     rw [Below.heap_setCell _ _ _ g (fun e => hg e), Below.heap_setCell _ _ _ g (fun e => hg e)]
    have hown5 := q2.kept (grownBy_setCell' w2 w.heap.size (.slice A4 (rs.length + 1) c4)) (.inr hv2.symm)
    have hg6 : (w2.setCell ⟨w.heap.size, 0, none⟩ (.slice A4 (rs.length + 1) c4)).grownBy ((w2.setCell ⟨w.heap.size, 0, none⟩ (.slice A4 (rs.length + 1) c4)).setCell ⟨w.heap.size, 1, none⟩ (.int .i64 ((cnt + k1 : Nat) : Int))) (some w.heap.size) :=
     ⟨rfl, rfl, rfl, by simp, fun k _ hk => Below.heap_setCell _ _ _ k (fun e => hk (by rw [e]))⟩
    have hown6 := hown5.kept hg6 (.inr hv2.symm)
    have hrw := HH1.out.step (no' := (Value.slice A4 (rs.length + 1) c4).ownBlock) (w' := (w2.setCell ⟨w.heap.size, 0, none⟩ (.slice A4 (rs.length + 1) c4)).setCell ⟨w.heap.size, 1, none⟩ (.int .i64 ((cnt + k1 : Nat) : Int)))
     (by rw [← hsizes]; have := q4.size; rw [World.size_alloc] at this; omega)
     (fun g g1 g2 g3 => by rw [hoth g (by omega), q4.block g (by rw [World.size_alloc]; omega) g3, Below.heap_alloc _ _ g g2])
     (fun g g1 g2 => by
      rcases q5 with h | h
      ·rw [h]; exact g2
      ·rw [h, World.size_alloc]
       intro e
       injection e with e
       omega)
    have hbf : Below w.heap.size w ((w2.setCell ⟨w.heap.size, 0, none⟩ (.slice A4 (rs.length + 1) c4)).setCell ⟨w.heap.size, 1, none⟩ (.int .i64 ((cnt + k1 : Nat) : Int))) := by
     have h1 := (HB.out.2.2.2.2.2.2.2.trans (HI.out.2.2.mono HB.out.2.2.2.2.2.2.2.size)).trans (q3.mono (Nat.le_succ _))
     exact (h1.setCell (p := ⟨w.heap.size, 0, none⟩) (Nat.le_refl _) _).setCell (p := ⟨w.heap.size, 1, none⟩) (Nat.le_refl _) _
    obtain ⟨fu', rfl⟩ : ∃ f, fu = f + 1 := ⟨fu - 1, by have := HB.out.2.1; omega⟩
    have hpr := HB.out.2.2.1
    rw [parse_step, ← hT, if_pos rfl] at hpr
    refine ⟨nx, fu', cnt + k1, rs ++ [l], .slice A4 (rs.length + 1) c4, vs ++ [.slice (some a1) k1 c1], rfl, hn2, by rw [List.length_append]; simp only [List.length_singleton]; omega, by rw [List.length_append]; simp only [List.length_singleton]; omega, Lib.hid ⟨?_, by have := HB.out.2.1; omega, by rw [List.append_assoc]; exact hpr, ?_, ?_, ?_, ?_, ?_⟩⟩
    ·rw [List.flatten_append, List.length_append, ← HB.out.1, HI.out.1]; simp
    ·intro r hr
     rcases List.mem_append.1 hr with h1 | h1
     ·exact HB.out.2.2.2.1 r h1
     ·rw [List.mem_singleton.1 h1]
      intro y hy
      have h2 : l = (bkTake b p).1 := by rw [← hT]
      rw [h2] at hy
      unfold bkTake at hy
      split at hy
      ·exact It.read_fit _ y hy
      ·simp at hy
    ·simpa using hst
    ·simpa using hown6
    ·simpa using hrw
    ·simpa using hbf
   case measure => simp [intOf]; omega
  ·have he3 : ((er : Int) == 0) = false := by simp; omega
   have hend : Tb.parse (N + 1) b 0 = rs := by
    have h1 := HB.out.2.2.1
    obtain ⟨fu', rfl⟩ : ∃ f, fu = f + 1 := ⟨fu - 1, by have := HB.out.2.1; omega⟩
    rw [parse_step, ← HT.out, if_neg he, List.append_nil] at h1
    exact h1.symm
   have hop : Tb.open_ b = if (Tb.good rs.flatten = true ∧ Tb.make rs.flatten = b) then some rs else none := by
    unfold Tb.open_
    rw [HLN.out, hend]
   have hown1 := own_below HB.out.2.2.2.2.2.1 HI.out.2.2
   have hrows1 := HB.out.2.2.2.2.2.2.1.step (no' := none) HI.out.2.2.size (fun g _ h5 _ => HI.out.2.2.block g h5) (fun g _ h => nofun)
   have htb : ∀ W, Sames w.heap.size w1.heap.size w1 W → TbAt W w.heap.size rs := fun W hW => TbAt.of (b := w.heap.size) (no := none) HB.out.1 (Nat.le_refl _) HX.out (own_base hown1 (Nat.le_succ _)) ⟨hrows1.1, fun i hi => let ⟨A, k, c, h1, h2, h3, h4, h5⟩ := hrows1.2 i hi; ⟨A, k, c, h1, h2, h3, h4, fun a ha => ⟨Nat.le_of_succ_le (h5 a ha).1, (h5 a ha).2⟩⟩⟩ hW
   have htn := htb w1 ⟨Nat.le_refl _, fun _ _ _ => rfl⟩
   have hal := tall_any w.heap.size cnt rs w1 htn HB.out.1 (by omega) (by omega)
   have HAL := Lib.hid hal
   have HTB := Lib.hid htb
   have HOP := Lib.hid hop
   have hbw1 := HB.out.2.2.2.2.2.2.2.trans (HI.out.2.2.mono HB.out.2.2.2.2.2.2.2.size)
   have HBW := Lib.hid hbw1
   clear hend hop hown1 hrows1 htb htn hal hbw1
   go_wp2_with fail
   refine HAL.out.mono ?_
   rintro e w2 ⟨A2, c2, rfl, ho2, hc2, hm2, hb2⟩
   have hmk := tbmake_any A2 cnt c2 rs.flatten w2 (by omega) hc2 (Row.own ho2) (fun x hx => by
    obtain ⟨r, h1, h2⟩ := List.mem_flatten.1 hx
    exact HB.out.2.2.2.1 r h1 x h2)
   have HMK := Lib.hid hmk
   have HB2 := Lib.hid hb2
   clear hmk ho2 hb2 HAL
   go_wp2_with fail
   refine HMK.out.mono ?_
   rintro e w3 (⟨hgd, A3, M3, c3, rfl, ho3, hc3, hm3, hb3⟩ | ⟨hgd, er3, hne3, rfl, hb3⟩)
   ·have hb13 := later_ HB2.out hb3
    have heq := bequal_any A3 M3 c3 (Tb.make rs.flatten) A N c b w3 (Row.own ho3) ((HR.out.below (HBW.out.trans (hb13.mono HBW.out.size))).up (HBW.out.trans (hb13.mono HBW.out.size)).size)
    obtain ⟨q, hq⟩ : ∃ q, q = (Tb.make rs.flatten == b) := ⟨_, rfl⟩
    rw [← hq] at heq
    have HEQ := Lib.hid heq
    have HQ := Lib.hid (And.intro hq (And.intro hgd hb13))
    clear heq hq hgd hb13 hb3 ho3 HMK
    go_wp2_with fail
    refine HEQ.out.mono ?_
    rintro e w4 ⟨rfl, rfl⟩
    have hbz := HBW.out.trans (HQ.out.2.2.mono HBW.out.size)
    have HBZ := Lib.hid hbz
    clear hbz HEQ
    cases q with
    | true =>
     go_wp2
     go_ret2
     have h1 := HQ.out.1
     have h2 : Tb.open_ b = some rs := by rw [HOP.out, if_pos ⟨HQ.out.2.1, by simpa using h1.symm⟩]
     refine ⟨HBZ.out, .inr ⟨rs, h2, w.heap.size, rfl, fun W hW => HTB.out W ⟨Nat.le_trans HQ.out.2.2.size hW.1, fun g g1 g2 => ?_⟩⟩⟩
     rw [hW.2 g g1 (by have := HQ.out.2.2.size; omega), HQ.out.2.2.block g g2]
    | false =>
     go_wp2
     go_ret2
     have h1 := HQ.out.1
     have h2 : Tb.open_ b = none := by rw [HOP.out, if_neg (fun h => by rw [h.2] at h1; simp at h1)]
     exact ⟨HBZ.out, .inl ⟨h2, 9, by omega, rfl⟩⟩
   ·have he5 : ((er3 : Int) == 0) = false := by simp; omega
    have hbz := HBW.out.trans ((later_ HB2.out hb3).mono HBW.out.size)
    have h2 : Tb.open_ b = none := by rw [HOP.out, if_neg (fun h => by rw [h.1] at hgd; cases hgd)]
    have HBZ := Lib.hid (And.intro hbz h2)
    clear hbz h2 hgd
    go_wp2
    go_ret2
    exact ⟨HBZ.out.1, .inl ⟨HBZ.out.2, 9, by omega, rfl⟩⟩
end
end Go.Proofs.YtdkjoigpahafmaaGreatDoor
