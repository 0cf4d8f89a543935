/-
  The walk of ManHostile.
-/
import Derived.Test.YthepokgkfaocmaaGreatDoorBunAR
namespace Go.Proofs.YthepokgkfaocmaaGreatDoor
open Go Go.RowKit Go.Shelf
set_option maxRecDepth 100000 in
set_option maxHeartbeats 4000000 in
theorem manHostile_walk (A : Option Addr) (n c : Nat) (xs : List Ev) (cur : Bool) (at_ : Int) (by_ : UInt8) (cut : Int) (gone : Bool) (w : World) (he : Env w) (hn : n ≤ c) (hcm : c ≤ maxLen) (hx : Eds w.heap.size w A n xs) :
    Calls Tryz.prog 5 #[.slice A n c, .bool cur, .int .i64 at_, .int .u8 (by_.toNat : Int), .int .i64 cut, .bool gone] w fun e w' => e = .returned (.bool true) ∧ Below w.heap.size w w' := by
  have hes := edits_any A n c xs w hn hcm hx
  obtain ⟨S0, hrw, hI0⟩ := new_eqG
  have HRW := Lib.hid hrw
  have HI0 := Lib.hid hI0
  have hnw := fun X w1 (hdm : Dm w1 X (Sd.new 1048576)) => gnew_any v1g none 0 0 v1g_ok (by omega) (by omega) (by decide) (w := w1) Row.nil_ (by decide) hdm (S0, ⟨Mw.man 1, v1g, 1, false⟩, 0) HRW.out.symm rfl
  simp only [v1g_val] at hnw
  have HNW := Lib.hid hnw
  clear hrw hI0 hnw
  go_enter Tryz.func5, Tryz.ntmps5
  go_wp2_with fail
  refine hes.mono ?_
  rintro e w1 ⟨hb1, he1⟩
  have hdn := dnew_any 1048576 w1
  have hen1 := he.below hb1
  clear hes
  rcases he1 with rfl | ⟨G, g, gc, V, k, vc, gs, vs, rfl, hG, hV, hch, hg45, hggc, hgcm, hkv, hvm⟩
  · go_wp2_with fail
    refine hdn.mono ?_
    rintro e w2 ⟨X, rfl, hdk, hb2, hfo⟩
    have hdm := dm_new (by omega) hen1 hdk hb2 hfo
    have hb02 := later_ hb1 hb2
    have hnw := HNW.out X w2 hdm
    have HFO := Lib.hid (fun g hg => Nat.le_trans hb1.size (hfo g hg) : ∀ g ∈ X.foot, w.heap.size ≤ g)
    clear hdn hdk hfo hb1 hb2 HNW HI0 HRW hdm
    go_wp2_with fail
    refine hnw.mono ?_
    rintro e w3 ⟨P, m, X3, rfl, hbn⟩
    have L := gat_born HFO.out hb02 hbn
    have haw := awake_any w3 L.dm.env
    have hbl := L.bel
    clear hnw HFO hbn hb02
    go_wp2_with fail
    refine haw.mono ?_
    rintro e w4 ⟨rfl, hb4⟩
    have hbz := later_ hbl hb4
    clear haw hbl
    go_wp2
    go_ret
    exact ⟨rfl, hbz⟩
  · go_wp2_with fail
    refine hdn.mono ?_
    rintro e w2 ⟨X, rfl, hdk, hb2, hfo⟩
    have hdm := dm_new (by omega) hen1 hdk hb2 hfo
    have hnw := HNW.out X w2 hdm
    have HFO := Lib.hid hfo
    clear hdn hdk hfo HNW HRW hdm
    go_wp2_with fail
    refine hnw.mono ?_
    rintro e w3 ⟨P, m, X3, rfl, hbn⟩
    have L0 := gat_born HFO.out hb2 hbn
    have hx3 := hbn.e
    obtain ⟨t0, I0⟩ := HI0.out (vs.map (·.v)) hch.one
    clear hnw HFO hbn HI0
    generalize X.d = d0 at *
    go_wp2_with fail
    have hN1 := hen1.base
    go_loopw [19] (fun i wr => ∃ (k : Nat) (S : Sd) (M : Gs) (X : Dw) (P : Sl) (t : List UInt8), k ≤ g ∧ k ≤ 8 ∧ i = .int .i64 (k : Int) ∧ X.d = d0 ∧ GAt P w1 wr X S m M ∧ Hid (HosI (vs.map (·.v)) k S M t)) (fun i _ => g - (intOf i).toNat)
    case atStart => exact ⟨0, S0, _, X3, P, t0, Nat.zero_le _, by omega, rfl, hx3, L0, Lib.hid I0⟩
    case round =>
      obtain ⟨k, S, M, X, P, t, hkg, hk8, rfl, hxd, L, hI⟩ := hrel
      clear L0 I0 hx3 hb2
      by_cases hlt : k < g ∧ k < 8
      · obtain ⟨hlt, hlt8⟩ := hlt
        have e8 : (k : Int) < 8 := by omega
        obtain ⟨a, hl, rfl, hab, hat, hok⟩ := (hG.below L.bel).at_ hlt
        obtain ⟨S', M', hsv, t', hI'⟩ := hI.out.save hch (by simpa using hl) (by omega)
        have hcnt := hI.out.count
        have hnm := hI.out.name
        have hs := L.save hN1 hI.out.ok (by omega) (by rw [hnm]; have := man_len 1; omega) gs[k] (hok.up L.bel.size) (by have := hok.small (by have := (hch.step k (by simpa using hl)).1; simpa using this); omega) (by have := hok.small (by have := (hch.step k (by simpa using hl)).1; simpa using this); omega)
        rw [List.getElem_map] at hsv
        rw [hsv, hxd] at hs
        generalize gs[k] = x at *
        obtain ⟨c0, c1, c2, c3, c4, c5, c6⟩ := hat
        unfold Ed.val at hs
        have HS := Lib.hid hs
        have HI := Lib.hid hI'
        have HL := Lib.hid L.bel
        clear hs hI' hI hsv L hnm hcnt
        go_wp2_with fail
        refine HS.out.mono ?_
        rintro e w4 ⟨rfl, P4, X4, hx4, L4⟩
        clear HS
        go_wp2
        go_roundw
        case rel => exact ⟨k + 1, S', M', X4, P4, t', by omega, by omega, by go_num, hx4, L4, HI⟩
        case measure => simp [intOf]; omega
      · obtain ⟨nm, hnm⟩ : ∃ nm, nm = if cur = true then Mw.kCur else Mw.man 1 := ⟨_, rfl⟩
        have hnl : nm.length ≤ 1000 := by
          rw [hnm]
          split
          · decide
          · have := man_len 1; omega
        have ht := hI.out.len
        obtain ⟨b0, hb0⟩ : ∃ b0, b0 = if cur = true then Mw.headB 1 else t := ⟨_, rfl⟩
        have hbl : 1 ≤ b0.length ∧ b0.length ≤ 20000 := by
          rw [hb0]
          split
          · have := headB_len 1; have : 1 ≤ (Mw.headB 1).length := by decide
            omega
          · have := hI.out.pos; omega
        obtain ⟨r1, r2, r3, r4, r5, r6⟩ := gone_rest hI.out.calm hI.out.rest nm hnm
        rw [← hb0] at r1
        have hgn := gmname_any X.d L.man
        rw [hI.out.name] at hgn
        have hld := hI.out.load
        have hq := hI.out.quota
        have hcs : ((k : Int) < (g : Int)) = False ∨ ((k : Int) < (g : Int)) ∧ ((k : Int) < 8) = False := by
          by_cases h1 : k < g
          · exact .inr ⟨by omega, by simp; omega⟩
          · exact .inl (by simp; omega)
        have HNM := Lib.hid hnm
        have HB0 := Lib.hid hb0
        have HR := Lib.hid (And.intro r1 (And.intro r2 (And.intro r3 (And.intro r4 (And.intro r5 r6)))))
        have HQ := Lib.hid hq
        clear hnm hb0 r1 r2 r3 r4 r5 r6 hlt hq
        rcases hcs with e1 | ⟨e1, e2⟩
        all_goals
          go_wp2_with fail
          refine hgn.mono ?_
          rintro e w4 ⟨rfl, rfl⟩
          clear hgn
          go_upto_if 73 with (fail)
          go_cut [20] (fun s wx => s = .string (str nm) ∧ wx = wr)
          case first =>
            cases cur with
            | true =>
              have e3 : nm = Mw.kCur := HNM.out
              go_wp2
              go_meet
              exact ⟨by rw [e3]; rfl, rfl⟩
            | false =>
              have e3 : nm = Mw.man 1 := HNM.out
              go_wp2
              go_meet
              exact ⟨by rw [e3], rfl⟩
          case rest =>
            obtain ⟨rfl, hwc⟩ := hcut
            obtain rfl := hwc
            have hrd := L.acc0.read (str nm) (by rw [str_size]; unfold maxLen; omega)
            rw [list_str, HR.out.1, hxd] at hrd
            simp only at hrd
            rw [show ((0 : Nat) : Int) = 0 from rfl] at hrd
            have hNB := HR.out.1
            have hl1 : ((b0.length : Int) == 0) = false := by rw [beq_eq_false_iff_ne]; omega
            have hl2 : (0 : Int) < (b0.length : Int) := by omega
            go_wp2_with fail
            refine hrd.mono ?_
            rintro e w5 ⟨A, c5, rfl, hown, hb5⟩
            have L5 := L.below hb5
            have hrm5 := L5.remove (str nm) (by rw [str_size]; unfold maxLen; omega) (by omega)
            have hAf : ∀ a, A = some a → a.block ∉ X.foot ∧ a.block ≠ m ∧ (∀ j, j < (fcells M.v.files).length → ∀ a', P.a = some a' → a'.block ≠ a.block) := fun a ha => by
              obtain ⟨_, _, hsl, _, _, hbs⟩ := own_form hown
              injection hsl with hsl _ _
              subst hsl
              have h1 := (hbs a ha).1
              refine ⟨fun h => ?_, fun h => ?_, fun j hj a' ha' h => ?_⟩
              · have := L.dm.dk.lt _ h; omega
              · have := L.man.lt; omega
              · have := row_lt L.row.row hj ha'; omega
            rw [list_str, hxd] at hrm5
            have HRM := Lib.hid hrm5
            have HOWN := Lib.hid hown
            have HAF := Lib.hid hAf
            have hlow : ∀ a, A = some a → wc.heap.size ≤ a.block ∧ a.block < w5.heap.size := fun a ha => by
              obtain ⟨_, _, hsl, _, _, hbs⟩ := own_form hown
              injection hsl with hsl _ _
              subst hsl
              exact ⟨(hbs a ha).1, (hbs a ha).2.1⟩
            have HLOW := Lib.hid hlow
            clear hrd hNB hown hAf hrm5 hlow
            go_wp2_with fail
            refine HRM.out.mono ?_
            rintro e w6 ⟨rfl, X6, hx6, L6, hc6, hf6⟩
            rw [HR.out.2.1]
            have hx6' := hx6.trans hxd
            have hown6 := own_chg HOWN.out hc6 (fun g hg hm => by
              cases A with
              | none => cases hg
              | some a => injection hg with hg; subst hg; exact (HAF.out a rfl).1 hm)
            have hAf6 : ∀ a, A = some a → a.block ∉ X6.foot := fun a ha hm => by
              rcases hf6 _ hm with h1 | h1
              · exact (HAF.out a ha).1 h1
              · have := HLOW.out a ha; omega
            have hcv := conv_hos (Row.own hown6) c5
            obtain ⟨a, rfl⟩ : ∃ a, A = some a := by
              cases A with
              | none => have := own_none hown6; omega
              | some a => exact ⟨a, rfl⟩
            obtain ⟨gb, cu, rfl, hgb, hbx, hcl, hlc, hcm5, htk⟩ := own_box hown6
            obtain ⟨af1, af2, af3⟩ := HAF.out _ rfl
            have af4 := hAf6 _ rfl
            simp only at af1 af2 af3 af4
            have hS1 : (S.remove nm).1 = (S.remove nm).1 := rfl
            obtain ⟨S1, hS1⟩ : ∃ S1, S1 = (S.remove nm).1 := ⟨_, rfl⟩
            have HS1 := Lib.hid hS1
            rw [← hS1] at L6
            obtain ⟨ma, hma, hma1⟩ := and_mask at_ 24 (by omega)
            have hma' : bits .and .i64 at_ 16777215 = (ma : Int) := hma
            obtain ⟨p, hp, hp1⟩ : ∃ p : Nat, (ma : Int) % (b0.length : Int) = (p : Int) ∧ p < b0.length := ⟨ma % b0.length, by simp, Nat.mod_lt _ (by omega)⟩
            have hget : cu[p]? = some (.int .u8 ((b0[p]'hp1).toNat : Int)) := by
              have h1 : (bts b0)[p]? = some (.int .u8 ((b0[p]'hp1).toNat : Int)) := by simp [bts, hp1]
              rw [← htk, List.getElem?_take_of_lt (by omega)] at h1
              exact h1
            have hcell := hbx.cell p
            rw [hget] at hcell
            have hfree := hbx.free p
            obtain ⟨xv, hxv, hxor⟩ : ∃ xv : UInt8, xv = b0[p]'hp1 ^^^ by_ ∧ bits .xor .u8 ((b0[p]'hp1).toNat : Int) (by_.toNat : Int) = (xv.toNat : Int) := ⟨_, rfl, bits8_xor _ _⟩
            have HXV := Lib.hid hxv
            clear hxv
            obtain ⟨mc, hmc, hmc1⟩ := and_mask cut 8 (by omega)
            have hmc' : bits .and .i64 cut 255 = (mc : Int) := hmc
            obtain ⟨q, hq, hq1⟩ : ∃ q : Nat, (mc : Int) % ((b0.length : Int) + 1) = (q : Int) ∧ q ≤ b0.length := ⟨mc % (b0.length + 1), by simp, by have := Nat.mod_lt mc (show 0 < b0.length + 1 by omega); omega⟩
            obtain ⟨r, hr, hr1⟩ : ∃ r : Nat, (b0.length : Int) - (q : Int) = (r : Int) ∧ r ≤ b0.length := ⟨b0.length - q, by omega, by omega⟩
            have hr2 : (r : Int) ≤ (c5 : Int) := by omega
            have HMA := Lib.hid hma
            have HHP := Lib.hid hp
            have HCU := Lib.hid hget
            have HTK := Lib.hid htk
            have HCL := Lib.hid hcl
            clear hma hmc hown6 hAf6 HOWN HAF HLOW hx6 hc6 hf6 hS1 htk hget hcl HRM
            obtain ⟨b2, hb2⟩ : ∃ b2, b2 = (b0.set p xv).take r := ⟨_, rfl⟩
            have hb2l : b2.length = r := by rw [hb2, List.length_take, List.length_set]; omega
            have L7 := L6.other (chg_set w6 ⟨gb, p, none⟩ (.int .u8 (xv.toNat : Int))) af4 af2 (fun j hj a ha => af3 j hj a ha) (Nat.le_trans L.bel.size hgb) hN1
            have hown7 := box_own (n := r) hgb (hbx.store p (.int .u8 (xv.toNat : Int))) (by rw [List.length_set]; exact HCL.out) (by omega) hcm5
            have hset : (cu.set p (.int .u8 (xv.toNat : Int))).take (r * 1) = bts b2 := by
              have h1 : (cu.set p (.int .u8 (xv.toNat : Int))).take b0.length = bts (b0.set p xv) := by
                have h2 := HTK.out
                rw [Nat.mul_one] at h2
                rw [List.take_set, h2, bts, bts, List.map_set]
              rw [Nat.mul_one, hb2, bts_take, ← h1, List.take_take, Nat.min_eq_left hr1]
            rw [hset] at hown7
            have hbx7 : w6.heap.size ≤ (w6.setCell ⟨gb, p, none⟩ (.int .u8 (xv.toNat : Int))).heap.size := by simp
            have HB2 := Lib.hid hb2
            have HR4 := HR.out.2.2.1
            have HR5 := HR.out.2.2.2.1
            rw [← HS1.out] at HR4 HR5
            have HC1 := Lib.hid HR4
            have HC2 := Lib.hid HR5
            have hl1 : S1.load ≤ 101 := by have := Sd.remove_load S nm; rw [← HS1.out] at this; omega
            have hn7 : (str nm).size ≤ maxLen := by rw [str_size]; unfold maxLen; omega
            clear hset hb2 HR4 HR5 HTK HCL HCU
            cases gone with
            | true =>
              have hop := L7.open_ (by omega)
              rw [hx6'] at hop
              have hop2 : Gw.opens S1 = (none, S1, if cur = true then 11 else 9) := by
                have h1 := HC2.out
                have h2 := HNM.out
                cases cur with
                | true => exact opens_gone HC1.out (by rw [h1, h2]; rfl)
                | false => exact opens_none HC1.out (by rw [h1, h2]; rfl)
              rw [hop2] at hop
              have HOP := Lib.hid hop
              clear hop hop2 hbx hown7 L6 L7 hbx7 af1 af2 af3 af4
              go_wp2_with fail
              refine HOP.out.mono ?_
              rintro e w8 ⟨rfl, X8, hx8, L8, _, _⟩
              have haw := awake_any w8 L8.dm.env
              have hbf := hb1.trans (L8.bel.mono hb1.size)
              clear HOP L8 hcv L5 hb5 L
              cases cur with
              | true =>
                rw [if_pos rfl]
                go_wp2_with fail
                refine haw.mono ?_
                rintro e w9 ⟨rfl, hb9⟩
                have hbz := later_ hbf hb9
                clear haw hbf
                go_wp2
                go_ret
                exact ⟨rfl, hbz⟩
              | false =>
                rw [if_neg (by decide)]
                go_wp2_with fail
                refine haw.mono ?_
                rintro e w9 ⟨rfl, hb9⟩
                have hbz := later_ hbf hb9
                clear haw hbf
                go_wp2
                go_ret
                exact ⟨rfl, hbz⟩
            | false =>
              obtain ⟨k1, k2, k3, k4, k5⟩ := back_rest (B := 20000) HC1.out HC2.out HR.out.2.2.2.2.2 (by omega) b2 (by omega) (by omega) (by omega) (by rw [HS1.out, HR.out.2.2.2.2.1, HQ.out]; decide)
              obtain ⟨S2, hS2⟩ : ∃ S2, S2 = (S1.create nm).1 := ⟨_, rfl⟩
              have hl2 := Sd.create_load S1 nm
              have hl3 := Sd.append_load S2 nm b2
              rw [← hS2] at k2 k3 k4 k5 hl2
              obtain ⟨S3, hS3⟩ : ∃ S3, S3 = (S2.append nm b2).1 := ⟨_, rfl⟩
              rw [← hS3] at k3 k4 k5 hl3
              have hcr := L7.create (str nm) hn7 (by omega)
              rw [list_str, hx6'] at hcr
              have HCR := Lib.hid hcr
              have HS2 := Lib.hid hS2
              have HS3 := Lib.hid hS3
              have HK1 := Lib.hid k1
              have HK2 := Lib.hid k2
              have HK3 := Lib.hid k3
              have HK4 := Lib.hid k4
              have HK5 := Lib.hid k5
              have hgl := hbx.lt
              clear hcr hbx k1 k2 k3 k4 k5 hS2 hS3
              go_wp2_with fail
              refine HCR.out.mono ?_
              rintro e w8 ⟨rfl, X8, hx8, L8, hc8, hf8⟩
              rw [HK1.out]
              have hown8 := own_chg hown7 hc8 (fun g hg hm => by injection hg with hg; subst hg; exact af4 hm)
              have ag8 : gb ∉ X8.foot := fun hm => by
                rcases hf8 _ hm with h1 | h1
                · exact af4 h1
                · omega
              rw [← HS2.out] at L8
              have hx8' := hx8.trans hx6'
              have hap := L8.append (str nm) hn7 (some ⟨gb, 0, none⟩) r c5 b2 (by omega) (Row.own hown8) (fun a ha => by injection ha with ha; subst ha; exact ag8)
              rw [list_str, hx8'] at hap
              have HAP := Lib.hid hap
              have HO8 := Lib.hid hown8
              clear hap hown8 hown7 hc8 hf8 HCR hx8 L7 hbx7 L6 hb5 L5 L hcv hcell hfree hxor hma' hp hmc' hq hr
              go_wp2_with fail
              refine HAP.out.mono ?_
              rintro e w9 ⟨rfl, X9, hx9, L9, hc9, hf9⟩
              rw [HK2.out]
              rw [← HS3.out] at L9
              have hown9 := own_chg HO8.out hc9 (fun g hg hm => by injection hg with hg; subst hg; exact ag8 hm)
              have ag9 : gb ∉ X9.foot := fun hm => by
                rcases hf9 _ hm with h1 | h1
                · exact ag8 h1
                · have := (HO8.out.lt gb rfl).2; omega
              have hx9' := hx9.trans hx8'
              have hop := L9.open_ (by omega)
              rw [hx9'] at hop
              have HOP := Lib.hid hop
              have HO9 := Lib.hid hown9
              clear hop hown9 hc9 hf9 hx9 HAP HO8 ag8 L8
              have hbt : Hid (cur = true ∧ b2 ≠ b0 ∧ Gw.opens S3 = (none, S3, 9)) ∨ Hid ((cur = true → b2 = b0) ∧ HosOk (Gw.opens S3)) := by
                have e1 := HK4.out
                have e2 := HNM.out
                have e3 := HB0.out
                have hq3 : S3.quota = 1048576 := HK5.out.trans (by rw [HS1.out, HR.out.2.2.2.2.1, HQ.out])
                have ht2 : t.length ≤ 20000 := by omega
                cases cur with
                | true =>
                  rw [if_pos rfl] at e2 e3
                  by_cases hbb : b2 = b0
                  · refine .inr ⟨fun _ => hbb, opens_text (t := t) (B := 20000) HK3.out ?_ ht2 (by omega) (by rw [hq3]; decide)⟩
                    rw [e1, e2, hbb, e3]
                    funext s
                    unfold upd
                    split
                    · subst_vars
                      rw [Mw.rest, if_neg (Mw.man_cur (n := 1) (Nat.le_refl 1) (by decide)).symm, if_pos rfl]
                      rfl
                    · rfl
                  · refine .inl ⟨rfl, hbb, opens_bad (t := t) (b := b2) HK3.out (by rw [e1, e2]) ?_⟩
                    rw [HB2.out]
                    have e4 : b0 = Fr.put 8 (Pn.put 1) := e3
                    rw [e4]
                    refine Fr.take_turned 8 (Pn.put 1) (by omega) (by omega) (by have := Pn.put_len 1; omega) p xv r ?_
                    rw [← e4, ← HB2.out]
                    exact hbb
                | false =>
                  rw [if_neg (by decide)] at e2 e3
                  refine .inr ⟨(fun h => by cases h), opens_text (t := b2) (B := 20000) HK3.out ?_ (by omega) (by omega) (by rw [hq3]; decide)⟩
                  rw [e1, e2]
                  funext s
                  unfold upd Mw.rest
                  split
                  · rfl
                  · rfl
              clear HK1 HK2 HK3 HK4 HK5 HS1 HS2 HS3 HNM HB0 HB2 HC1 HC2 HR HQ HXV HMA HHP hI
              rcases hbt with hbt | hbt
              · obtain ⟨rfl, hne, hR⟩ := hbt.out
                have hop := HOP.out
                rw [hR] at hop
                have HOP2 := Lib.hid hop
                clear hop HOP hR hbt
                go_wp2_with fail
                refine HOP2.out.mono ?_
                rintro e w10 ⟨rfl, X10, hx10, L10, hc10, _⟩
                have hown10 := own_chg HO9.out hc10 (fun g hg hm => by injection hg with hg; subst hg; exact ag9 hm)
                have hcv := conv_hos (Row.own hown10) c5
                have haw := awake_any w10 L10.dm.env
                have hbf := hb1.trans (L10.bel.mono hb1.size)
                have hne1 : (b2 == b0) = false := by simpa using hne
                have hne2 : (b2 != b0) = true := by simpa using hne
                clear HOP2 L10 L9 hown10 HO9 hc10 hx10
                go_wp2_with fail
                refine haw.mono ?_
                rintro e w11 ⟨rfl, hb11⟩
                have hbz := later_ hbf hb11
                clear haw hbf hcv
                go_wp2
                go_ret
                exact ⟨rfl, hbz⟩
              · obtain ⟨hcb, hosk⟩ := hbt.out
                have hop := HOP.out
                have HCB := Lib.hid hcb
                generalize Gw.opens S3 = R at *
                obtain ⟨o, S4, er⟩ := R
                clear hbt HOP hcb
                cases o with
                | none =>
                  have her : er = 9 := hosk
                  subst her
                  have HOP := Lib.hid hop
                  clear hop hosk
                  go_wp2_with fail
                  refine HOP.out.mono ?_
                  rintro e w10 ⟨rfl, X10, hx10, L10, hc10, _⟩
                  have hown10 := own_chg HO9.out hc10 (fun g hg hm => by injection hg with hg; subst hg; exact ag9 hm)
                  have hcv := conv_hos (Row.own hown10) c5
                  have haw := awake_any w10 L10.dm.env
                  have hbf := hb1.trans (L10.bel.mono hb1.size)
                  rw [show ((9 : Nat) : Int) = 9 from rfl]
                  clear HOP L10 L9 hown10 HO9 hc10 hx10
                  cases cur with
                  | true =>
                    obtain rfl := HCB.out rfl
                    clear HCB
                    go_wp2_with fail
                    refine haw.mono ?_
                    rintro e w11 ⟨rfl, hb11⟩
                    have hbz := later_ hbf hb11
                    clear haw hbf hcv
                    go_wp2
                    go_ret
                    exact ⟨rfl, hbz⟩
                  | false =>
                    go_wp2_with fail
                    refine haw.mono ?_
                    rintro e w11 ⟨rfl, hb11⟩
                    have hbz := later_ hbf hb11
                    clear haw hbf hcv
                    go_wp2
                    go_ret
                    exact ⟨rfl, hbz⟩
                | some M5 =>
                  obtain ⟨rfl, hvk⟩ : er = 0 ∧ M5.v.ok = true := hosk
                  have HOP := Lib.hid hop
                  clear hop
                  go_wp2_with fail
                  refine HOP.out.mono ?_
                  rintro e w10 ⟨P5, m5, X10, rfl, hx10, L10, hc10, _, _, _, _, _⟩
                  have hown10 := own_chg HO9.out hc10 (fun g hg hm => by injection hg with hg; subst hg; exact ag9 hm)
                  have hcv := conv_hos (Row.own hown10) c5
                  have hvw := L10.view
                  have hvo := fun A c w' (hf : Fresh w10.heap.size w' A P5.n c M5.v.files) => viewok_any M5.v A P5.n c w' (by have := L10.row.nb; omega) hf.row
                  rw [hvk] at hvo
                  unfold Vw.val at hvw hvo
                  have HVW := Lib.hid hvw
                  have HVO := Lib.hid hvo
                  clear HOP L9 hown10 HO9 hc10 hx10 hvw hvo hvk
                  cases cur with
                  | true =>
                    obtain rfl := HCB.out rfl
                    clear HCB
                    go_wp2_with fail
                    refine HVW.out.mono ?_
                    rintro e w11 ⟨A11, c11, rfl, hf11, hb11⟩
                    have L11 := L10.below hb11
                    have hvo11 := HVO.out _ _ _ hf11
                    clear HVW HVO L10 hb11 hcv
                    go_wp2_with fail
                    refine hvo11.mono ?_
                    rintro e w12 ⟨rfl, hb12⟩
                    have L12 := L11.below hb12
                    have haw := awake_any w12 L12.dm.env
                    have hbf := hb1.trans (L12.bel.mono hb1.size)
                    clear hvo11 hb12 L11 L12
                    go_wp2_with fail
                    refine haw.mono ?_
                    rintro e w13 ⟨rfl, hb13⟩
                    have hbz := later_ hbf hb13
                    clear haw hbf
                    go_wp2
                    go_ret
                    exact ⟨rfl, hbz⟩
                  | false =>
                    clear HCB
                    go_wp2_with fail
                    refine HVW.out.mono ?_
                    rintro e w11 ⟨A11, c11, rfl, hf11, hb11⟩
                    have L11 := L10.below hb11
                    have hvo11 := HVO.out _ _ _ hf11
                    clear HVW HVO L10 hb11 hcv
                    go_wp2_with fail
                    refine hvo11.mono ?_
                    rintro e w12 ⟨rfl, hb12⟩
                    have L12 := L11.below hb12
                    have haw := awake_any w12 L12.dm.env
                    have hbf := hb1.trans (L12.bel.mono hb1.size)
                    clear hvo11 hb12 L11 L12
                    go_wp2_with fail
                    refine haw.mono ?_
                    rintro e w13 ⟨rfl, hb13⟩
                    have hbz := later_ hbf hb13
                    clear haw hbf
                    go_wp2
                    go_ret
                    exact ⟨rfl, hbz⟩
end Go.Proofs.YthepokgkfaocmaaGreatDoor
