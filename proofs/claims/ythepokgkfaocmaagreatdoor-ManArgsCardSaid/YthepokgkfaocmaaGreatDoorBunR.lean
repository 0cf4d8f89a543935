/- Texts LawB, Env in one. No conditions. -/
import Derived.Test.YthepokgkfaocmaaGreatDoorBunQ
import Derived.Test.YthepokgkfaocmaaGreatDoorBunK
import Derived.Test.YthepokgkfaocmaaGreatDoorRows
import Derived.Stop.LaidErr
import Derived.LaidLaws
import Derived.LaidHandle

/-
  The walk of awake.
-/
namespace Go.Proofs.YthepokgkfaocmaaGreatDoor
open Go Go.RowKit Go.Shelf

def v1 : Bv := ⟨1, 0, 0, 0, 0⟩
theorem v1_vw : v1.vw = .agg #[.int .i64 1, .slice none 0 0, .int .u64 0, .int .u64 0, .int .u64 0, .int .u64 0] := rfl
def eF (n : Nat) : Bv := ⟨0, n, 0, 0, 0⟩
theorem eF_ed (n : Nat) : (eF n).ed = .agg #[.slice none 0 0, .slice none 0 0, .int .i64 0, .int .u64 (n : Int), .int .u64 0, .int .u64 0, .int .u64 0] := rfl
theorem v1_chain : Chain [v1] := Chain.one (by decide) rfl
theorem man1 : Mw.man 1 = [109, 97, 110, 46, 49] := by
  rw [Mw.man_digits (by omega) (by omega), Lib.decDigits_one (by omega)]
  rfl
theorem tab12 : Mn.name Mn.kTab 12 = [116, 97, 98, 46, 49, 50] := by
  rw [Mn.name_digits (by decide)]
  show Mn.kTab ++ [46] ++ Lib.decDigits 12 = _
  rw [Lib.decDigits_two (by omega) (by omega)]
  rfl
theorem log3 : Mn.name Mn.kLog 3 = [108, 111, 103, 46, 51] := by
  rw [Mn.name_digits (by decide)]
  show Mn.kLog ++ [46] ++ Lib.decDigits 3 = _
  rw [Lib.decDigits_one (by omega)]
  rfl
theorem num12 : Mn.number [116, 97, 98, 46, 49, 50] Mn.kTab = some 12 := by
  rw [← tab12]
  exact Mn.number_name (by decide)

theorem vw_floor (g f c a l : Int) (W : World) : (Instr.field 31 (.agg #[.int .i64 g, .slice none 0 0, .int .u64 f, .int .u64 c, .int .u64 a, .int .u64 l]) 2).run Tryz.prog W = .ok (.int .u64 f) W := by kernel_rfl
theorem vw_log (g f c a l : Int) (W : World) : (Instr.field 31 (.agg #[.int .i64 g, .slice none 0 0, .int .u64 f, .int .u64 c, .int .u64 a, .int .u64 l]) 0).run Tryz.prog W = .ok (.int .i64 g) W := by kernel_rfl

set_option maxRecDepth 100000 in
set_option maxHeartbeats 1000000 in
theorem awake_any (w : World) (he : Env w) : Calls Tryz.prog 21 #[] w fun e w' => e = .returned (.bool true) ∧ Below w.heap.size w w' := by
  have hdn := dnew_any 10000 w
  go_enter Tryz.func21, Tryz.ntmps21
  go_wp2_with fail
  refine hdn.mono ?_
  rintro e w1 ⟨X, rfl, hdk, hb1, hfo⟩
  have hdm := dm_new (by omega) he hdk hb1 hfo
  have hcalm := Calm.new 10000 (by omega)
  obtain ⟨n1, n2, n3, n4⟩ := Mw.rewrite_new (M := ⟨[], v1, 0, false⟩) (k := 1) hcalm (by omega) (by omega) (Calm.cont_new _) (by decide)
  have hnew := mnew_any v1 (by decide) (by decide) hdm _ rfl (show (Mw.rewrite (Sd.new 10000) ⟨[], v1, 0, false⟩ (Mw.man 1)).2.2 = 0 by rw [n4])
  have e0 : (Mw.rewrite (Sd.new 10000) ⟨[], v1, 0, false⟩ (Mn.name Mn.kMan 1)) = Mw.rewrite (Sd.new 10000) ⟨[], v1, 0, false⟩ (Mw.man 1) := rfl
  rw [e0, n4, v1_vw] at hnew
  have hld := Mw.rewrite_load (Sd.new_wf 10000 (by omega)) ⟨[], v1, 0, false⟩ (Mw.man 1)
  rw [show (Sd.new 10000).load = 0 from rfl] at hld
  have n3' : (Mw.rewrite (Sd.new 10000) ⟨[], v1, 0, false⟩ (Mw.man 1)).1.quota = 10000 := n3
  generalize (Mw.rewrite (Sd.new 10000) ⟨[], v1, 0, false⟩ (Mw.man 1)).1 = S1 at *
  simp only at hnew
  clear hdn n4 e0 hcalm hdk n3
  have HN := Lib.hid hnew
  clear hnew
  go_wp2_with fail
  refine HN.out.mono ?_
  rintro e w2 ⟨m, X2, rfl, hbn⟩
  have hat := at_born hfo hb1 hbn
  have hxe := hbn.e
  have hng := he.base
  have hsv := save_any (eF 7) (by decide) (by decide) (by decide) (show (Mw.man 1).length ≤ 1000 by rw [man1]; decide) (hat.mst hng)
  have hch : Chain ([v1] ++ [eF 7]) := v1_chain.snoc (by decide) (by decide)
  have htx : text ([v1] ++ [eF 7]) = Mw.recB v1 ++ Mw.recB (eF 7) := by rw [text_snoc, text_one]
  have hr1 := recB_len v1
  have hr2 := recB_len (eF 7)
  obtain ⟨s1, s2, s3, s4, s5⟩ := Mw.save_rest (M := ⟨Mw.man 1, v1, 1, false⟩) (n := 1) (B := 1000) (t := Mw.recB v1) (e := eF 7) n1 (by omega) (by omega) n2 rfl rfl (by omega) (by omega) (by omega) (by omega)
  rw [← htx] at s2
  generalize Mw.save S1 ⟨Mw.man 1, v1, 1, false⟩ (eF 7) = P at *
  obtain ⟨S2, M2, er⟩ := P
  simp only at s1 s2 s3 s4 s5
  injection s4 with s4 s6
  subst s4 s6
  rw [eF_ed] at hsv
  have HSV := Lib.hid hsv
  have HB := Lib.hid hbn
  clear hsv hbn HN hr1 hr2
  go_wp2_with fail
  refine HSV.out.mono ?_
  rintro e w3 ⟨rfl, X3, h3⟩
  have hat3 := hat.mst_left h3
  have hxe3 := h3.acc.e
  have htl : (text ([v1] ++ [eF 7])).length ≤ 400 := text_len _
  have hcur : S2.read Mw.kCur = (Mw.headB 1, 0) := s1.read Mw.cur_named (by rw [s2, Mw.rest, if_neg (Mw.man_cur (by omega) (by omega)).symm, if_pos rfl]; rfl)
  have hmn : S2.read (Mw.man 1) = (text ([v1] ++ [eF 7]), 0) := s1.read (Mw.man_named (by omega) (by omega)) (by rw [s2, Mw.rest, if_pos rfl])
  have hop := open_any 1 (by omega) (by omega) (text ([v1] ++ [eF 7])) ([v1] ++ [eF 7]) (text ([v1] ++ [eF 7])).length 0 hcur hmn (by omega) (text_split _) (.inl rfl) hch.pos (by decide) hch.may hch.ok (Nat.le_refl _) hat3.dm (by omega) (S2, ⟨Mn.name Mn.kMan (1 : Nat), Bv.run ([v1] ++ [eF 7]), ([v1] ++ [eF 7]).length, false⟩, 0) (by simp) rfl
  rw [hxe3, hxe] at hop
  have HOP := Lib.hid hop
  clear hop hcur hmn htl HSV
  go_wp2_with fail
  refine HOP.out.mono ?_
  rintro e w4 ⟨m4, X4, rfl, hb4⟩
  obtain ⟨hat4, hmm⟩ := hat3.born hb4
  have hnum := number_any ⟨#[116, 97, 98, 46, 49, 50]⟩ ⟨#[116, 97, 98]⟩ (by decide) (by decide) w4 hat4.dm.env
  have e1 : Mn.number (⟨#[116, 97, 98, 46, 49, 50]⟩ : ByteArray).data.toList (⟨#[116, 97, 98]⟩ : ByteArray).data.toList = some 12 := num12
  rw [e1, numV] at hnum
  clear HOP hb4
  go_wp2_with fail
  refine hnum.mono ?_
  rintro e w5 ⟨rfl, hb5⟩
  have hat5 := hat4.below hb5
  have hmm5 := hmm.below hb5
  have hvw := mview_any X4.d hat5.man
  have hfd := vw_floor 1 7 0 0 0
  have erv : (Bv.run ([v1] ++ [eF 7])).vw = .agg #[.int .i64 1, .slice none 0 0, .int .u64 7, .int .u64 0, .int .u64 0, .int .u64 0] := rfl
  rw [erv] at hvw
  clear hnum
  go_wp2_with fail
  refine hvw.mono ?_
  rintro e w6 ⟨rfl, hb6⟩
  have hat6 := hat5.below hb6
  have hnm := mname_any X3.d (hmm5.below hb6)
  have enm : str (Mw.man 1) = ⟨#[109, 97, 110, 46, 49]⟩ := by rw [man1]; rfl
  simp only [enm] at hnm
  clear hvw
  go_wp2_with fail
  refine hnm.mono ?_
  rintro e w7 ⟨rfl, rfl⟩
  have hlg := name_any ⟨#[108, 111, 103]⟩ (by decide) 3 (by omega) w6 hat6.dm.env
  have elg : str (Mn.name (⟨#[108, 111, 103]⟩ : ByteArray).data.toList 3) = ⟨#[108, 111, 103, 46, 51]⟩ := by
    rw [show (⟨#[108, 111, 103]⟩ : ByteArray).data.toList = Mn.kLog from rfl, log3]
    rfl
  rw [elg] at hlg
  clear hnm
  go_wp2_with fail
  refine hlg.mono ?_
  rintro e w8 ⟨rfl, hb8⟩
  have hfin := (hat6.below hb8).bel
  clear hlg
  go_wp2
  go_ret
  exact ⟨rfl, hfin⟩
end Go.Proofs.YthepokgkfaocmaaGreatDoor

/-
  From what a row lists of variables to what the walks ask of them.
-/
namespace Go.Proofs.YthepokgkfaocmaaGreatDoor
open Go Go.Shelf Go.RowKit

theorem star_es : "*" ++ "errors.errorString" = "*errors.errorString" := by decide
theorem row_es (u : TypeId) (h : Tryz.prog.typeName? 3 u = some "*errors.errorString") : u = 223 :=
  typeName_ptr_named (nm := "errors.errorString") (by rw [star_es]; kernel_rfl) (by kernel_rfl) (by decide) u (by rw [star_es]; exact h)
theorem env_of {a b : String × DataW Unit} (W : World) (h : laidMet Tryz.prog [a, b, ("internal/strconv.uint64pow10", Rows.laid_internal_strconv_uint64pow10), ("strconv.ErrRange", Rows.laid_strconv_ErrRange), ("strconv.ErrSyntax", Rows.laid_strconv_ErrSyntax)] W) : Env W := by
  have h2 := h.tail.tail
  have ht : Lib.TabIs Tryz.prog W "internal/strconv.uint64pow10" .u64 Lib.pow10Tab :=
    Lib.tabIs_of_head (g := gOf "internal/strconv.uint64pow10") (t := 219) (e := 29) (n := 20) glob1 (by kernel_rfl) Tryz.underlying219 Tryz.underlying29 (by kernel_rfl) (by kernel_rfl) h2
  obtain ⟨a1, s1, hv1, _⟩ := laid_sentinel h2.tail (g := gOf "strconv.ErrRange") glob3 (by kernel_rfl) Tryz.underlying109 row_es Tryz.underlying223 Tryz.underlying225 rfl rfl Tryz.underlying9 (by kernel_rfl) (by kernel_rfl)
  obtain ⟨a2, s2, hv2, _⟩ := laid_sentinel h2.tail.tail (g := gOf "strconv.ErrSyntax") glob2 (by kernel_rfl) Tryz.underlying109 row_es Tryz.underlying223 Tryz.underlying225 rfl rfl Tryz.underlying9 (by kernel_rfl) (by kernel_rfl)
  exact ⟨ht, ⟨_, _, hv2⟩, ⟨_, _, hv1⟩⟩
end Go.Proofs.YthepokgkfaocmaaGreatDoor
