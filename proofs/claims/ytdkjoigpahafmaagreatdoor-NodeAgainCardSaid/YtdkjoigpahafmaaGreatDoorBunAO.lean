/- Texts OwnA, StoI, PlainBorn, SOnce, StoC, StoB, StoH, NodA in one. No conditions. -/
import Derived.Test.YtdkjoigpahafmaaGreatDoorBunAD
import Derived.Test.YtdkjoigpahafmaaGreatDoorBunAF
import Derived.Test.YtdkjoigpahafmaaGreatDoorBunAK
import Derived.Test.YtdkjoigpahafmaaGreatDoorBunAN
import Derived.Test.YtdkjoigpahafmaaGreatDoorBunAM
import Derived.Test.YtdkjoigpahafmaaGreatDoorBunAA
import Derived.Lib.MinMax
import Derived.Test.YtdkjoigpahafmaaGreatDoorBunAI

set_option linter.unusedSimpArgs false
set_option linter.unusedVariables false
set_option maxRecDepth 100000
set_option maxHeartbeats 16000000
namespace Go.Proofs.YtdkjoigpahafmaaGreatDoor
section
open Go Go.RowKit Go.Lib
theorem sidx_cap (K : Nat) (hF : ∀ args w, (callFunc K args).run Tryz.prog w = .ok (.enter K args) w) (cap : Array Value) (P : List UInt8 → Bool) (A : Option Addr) (n c : Nat) (l : List (List UInt8)) (w : World) (hn : n ≤ 1000000) (hr : Row w.heap.size w A n 1 (l.map Go.Proofs.encStr))
  (hK : ∀ x w1, x ∈ l → Below w.heap.size w w1 → Calls Tryz.prog K (#[.string (str x)] ++ cap) w1 fun e w' => e = .returned (.bool (P x)) ∧ Below w1.heap.size w1 w') :
  Calls Tryz.prog 182 #[.slice A n c, .func (.func K) #[] cap] w fun e w' => e = .returned (.int .i64 (fidx P l)) ∧ Below w.heap.size w w' := by
 have hnn : n = l.length := by
  have := hr.len
  simp at this
  omega
 have HK := Lib.hid hK
 have HF := Lib.hid hF
 have HNN := Lib.hid hnn
 clear hK hF hnn
 go_enter Tryz.func182, Tryz.ntmps182
 go_wp2
 go_loopw [8] (fun i wr => ∃ k : Nat, k ≤ n ∧ i = .int .i64 (k : Int) ∧ Hid ((l.take k).any P = false) ∧ Below w.heap.size w wr) (fun i _ => n - (intOf i).toNat)
 case atStart => exact ⟨0, Nat.zero_le _, rfl, Lib.hid rfl, Below.refl _ _⟩
 case round =>
  obtain ⟨k, hk, rfl, hb, hbl⟩ := hrel
  by_cases hlt : k < n
  ·obtain ⟨a, hl, rfl, hbk, c0⟩ := (hr.below hbl).enc hlt
   have ht := any_take (P := P) hl
   have hs := fun h1 => fidx_some (P := P) hl hb.out h1
   have hc := HK.out l[k] wr (List.getElem_mem hl) hbl
   generalize l[k] = f at *
   have HT := Lib.hid ht
   have HS := Lib.hid hs
   clear ht hs hl
   generalize hp : P f = p at hc
   have HP := Lib.hid hp
   clear hp
   go_wp2_with fail
   rw [HF.out, Oper.upon_enter]
   refine hc.mono ?_
   rintro e w1 ⟨rfl, hb1⟩
   cases p with
   | true =>
    go_wp2
    go_ret
    exact ⟨ret_i (HS.out HP.out).symm, later_ hbl hb1⟩
   | false =>
    go_wp2
    go_roundw
    case rel => exact ⟨k + 1, by omega, by go_num, Lib.hid (by rw [HT.out, hb.out, HP.out]; rfl), later_ hbl hb1⟩
    case measure => simp [intOf]; omega
  ·have hall : fidx P l = -1 := fidx_none (by
    have hb' := hb.out
    rwa [List.take_of_length_le (by have := HNN.out; omega)] at hb')
   have HA := Lib.hid hall
   clear hall
   go_wp2
   go_ret
   exact ⟨ret_i HA.out.symm, hbl⟩
theorem shas_cap (K : Nat) (hF : ∀ args w, (callFunc K args).run Tryz.prog w = .ok (.enter K args) w) (cap : Array Value) (P : List UInt8 → Bool) (A : Option Addr) (n c : Nat) (l : List (List UInt8)) (w : World) (hn : n ≤ 1000000) (hr : Row w.heap.size w A n 1 (l.map Go.Proofs.encStr))
  (hK : ∀ x w1, x ∈ l → Below w.heap.size w w1 → Calls Tryz.prog K (#[.string (str x)] ++ cap) w1 fun e w' => e = .returned (.bool (P x)) ∧ Below w1.heap.size w1 w') :
  Calls Tryz.prog 122 #[.slice A n c, .func (.func K) #[] cap] w fun e w' => e = .returned (.bool (l.any P)) ∧ Below w.heap.size w w' := by
 have hge := fidx_ge P l
 have hq := sidx_cap K hF cap P A n c l w hn hr hK
 clear hK
 generalize fidx P l = i at *
 have HGE := Lib.hid hge
 clear hge
 go_enter Tryz.func122, Tryz.ntmps122
 go_wp2_with fail
 refine hq.mono ?_
 rintro e w1 ⟨rfl, hb⟩
 clear hq
 go_wp2
 go_ret
 exact ⟨ret_b HGE.out, hb⟩
theorem str_lit (x l : List UInt8) : ((str x).toList == l) = (x == l) := by
 rw [ByteArray.toList_eq]
 rfl
theorem own1_any (x k : List UInt8) (hx : x.length ≤ 1000) (hk : k.length ≤ 1000) (g : Nat) (w : World) (h : Env w) (hc : w.cell? ⟨g, 0, none⟩ = some (.string (str x))) :
  Calls Tryz.prog 186 #[.string (str k), .pointer (some ⟨g, 0, none⟩)] w fun e w' => e = .returned (.bool (Mn.number x k).isSome) ∧ Below w.heap.size w w' := by
 have hn := number_any (str x) (str k) (by rw [str_size]; omega) (by rw [str_size]; omega) w h
 rw [list_str, list_str] at hn
 obtain ⟨o, ho⟩ : ∃ o, o = Mn.number x k := ⟨_, rfl⟩
 rw [← ho] at hn ⊢
 have HN := Lib.hid hn
 clear hn ho h
 unfold numV at HN
 cases o <;>
 ·simp only at HN
  go_enter Tryz.func186, Tryz.ntmps186
  go_wp2_with fail
  refine HN.out.mono ?_
  rintro e w1 ⟨rfl, hb⟩
  go_wp2
  go_ret
  exact ⟨rfl, hb⟩
theorem isown_any (x : List UInt8) (hx : x.length ≤ 1000) (w : World) (h : Env w) :
  Calls Tryz.prog 126 #[.string (str x)] w fun e w' => e = .returned (.bool (St.isOwn x)) ∧ Below w.heap.size w w' := by
 have e1 : ((str x).toList == [99, 117, 114, 114, 101, 110, 116]) = (x == Mw.kCur) := str_lit x Mw.kCur
 have e2 : ((str x).toList == [99, 117, 114, 114, 101, 110, 116, 46, 116, 109, 112]) = (x == Mw.kTemp) := str_lit x Mw.kTemp
 have hR : St.isOwn x = ((x == Mw.kCur || x == Mw.kTemp) || [Mn.kLog, Mn.kTab, Mn.kMan].any fun k => (Mn.number x k).isSome) := rfl
 generalize St.isOwn x = R at *
 have hV := (Below.refl w.heap.size w).alloc (Nat.le_refl _) (.cells #[.string (str x)] 9)
 have hcall : ∀ V e, Below w.heap.size w V → V.cell? ⟨w.heap.size, 0, none⟩ = some (.string (str x)) → BoxO V e (w.heap.size + 1) [.string (str Mn.kLog), .string (str Mn.kTab), .string (str Mn.kMan)] →
   Calls Tryz.prog 122 #[.slice (some ⟨w.heap.size + 1, 0, none⟩) 3 3, .func (.func 186) #[] #[.pointer (some ⟨w.heap.size, 0, none⟩)]] V fun e w' => e = .returned (.bool ([Mn.kLog, Mn.kTab, Mn.kMan].any fun k => (Mn.number x k).isSome)) ∧ Below V.heap.size V w' := by
  intro V e hb hc hbx
  have hr : Row V.heap.size V (some ⟨w.heap.size + 1, 0, none⟩) 3 1 ([Mn.kLog, Mn.kTab, Mn.kMan].map Go.Proofs.encStr) := ⟨rfl, fun j hj => ⟨_, rfl, hbx.lt, by
   have h1 := hbx.cell j
   have e0 : (⟨w.heap.size + 1, 0, none⟩ : Addr).add j = ⟨w.heap.size + 1, j, none⟩ := by
    simp [Addr.add]
    omega
   rw [e0, h1]
   exact List.getElem?_eq_getElem hj⟩⟩
  refine shas_cap 186 (fun _ _ => rfl) _ _ _ 3 3 _ V (by omega) hr ?_
  intro k w1 hk hb1
  have hkl : k.length ≤ 1000 := by
   simp only [List.mem_cons, List.mem_nil_iff, or_false] at hk
   rcases hk with rfl | rfl | rfl <;> decide
  have hlt : w.heap.size < V.heap.size := by have := hbx.lt; omega
  exact own1_any x k hx hkl w.heap.size w1 ((h.below hb).below hb1) ((hb1.cell (p := ⟨w.heap.size, 0, none⟩) hlt).trans hc)
 have HC := Lib.hid hcall
 clear hcall h
 cases hb1 : (x == Mw.kCur) with
 | true =>
  rw [hb1] at e1 hR
  have HR := Lib.hid hR
  clear hR e2 HC
  go_enter Tryz.func126, Tryz.ntmps126
  go_wp2
  go_ret
  exact ⟨by rw [HR.out]; rfl, hV⟩
 | false =>
  cases hb2 : (x == Mw.kTemp) with
  | true =>
   rw [hb1] at e1 hR
   rw [hb2] at e2 hR
   have HR := Lib.hid hR
   clear hR HC
   go_enter Tryz.func126, Tryz.ntmps126
   go_wp2
   go_ret
   exact ⟨by rw [HR.out]; rfl, hV⟩
  | false =>
   rw [hb1] at e1 hR
   rw [hb2] at e2 hR
   generalize ([Mn.kLog, Mn.kTab, Mn.kMan].any fun k => (Mn.number x k).isSome) = q at *
   have HR := Lib.hid hR
   clear hR
   go_enter Tryz.func126, Tryz.ntmps126
   go_wp2_with fail
   have hVV := hV.alloc hV.size (.cells #[.string (str Mn.kLog), .string (str Mn.kTab), .string (str Mn.kMan)] 9)
   refine (HC.out _ 9 hVV (by simp) (by
    have := BoxO.new (w.alloc (.cells #[.string (str x)] 9)) #[.string (str Mn.kLog), .string (str Mn.kTab), .string (str Mn.kMan)] 9
    simpa using this)).mono ?_
   rintro e w1 ⟨rfl, hb1⟩
   have hbz := later_ hVV hb1
   clear hVV
   go_wp2
   go_ret
   exact ⟨by rw [HR.out]; rfl, hbz⟩
theorem new1_any (X : Dw) (S : Sd) (x : List UInt8) (hx : x.length ≤ 1000) (g : Nat) (w : World) (h : Dm w X S) (hc : w.cell? ⟨g, 0, none⟩ = some (.pointer (some ⟨X.d, 0, none⟩))) :
  Calls Tryz.prog 124 #[.string (str x), .pointer (some ⟨g, 0, none⟩)] w fun e w' => e = .returned (.bool (St.isOwn x && !St.isNone S x)) ∧ Below w.heap.size w w' := by
 have e1 : ((str x).toList == [99, 117, 114, 114, 101, 110, 116, 46, 116, 109, 112]) = (x == Mw.kTemp) := str_lit x Mw.kTemp
 have e2 : ((str x).toList == [109, 97, 110, 46, 49]) = (x == St.kMan1) := str_lit x St.kMan1
 have e3 : ((str x).toList == [108, 111, 103, 46, 49]) = (x == St.kLog1) := str_lit x St.kLog1
 have hrd := (Acc.start (F := []) h).read (str x) (by rw [str_size]; unfold maxLen; omega)
 rw [list_str] at hrd
 have hio := fun W hb => isown_any x hx W (h.env.below (w' := W) hb)
 have hR : (St.isOwn x && !St.isNone S x) = (St.isOwn x && !((x == Mw.kTemp || x == St.kMan1) || (x == St.kLog1 && (S.read x).1.length == 0))) := rfl
 obtain ⟨R, hRe⟩ : ∃ R, R = (St.isOwn x && !St.isNone S x) := ⟨_, rfl⟩
 rw [← hRe] at hR ⊢
 generalize St.isOwn x = o at *
 obtain ⟨n, hn⟩ : ∃ n, n = (S.read x).1.length := ⟨_, rfl⟩
 rw [← hn] at hrd hR
 have e4 : ((n : Int) == 0) = (n == 0) := by
  rw [Bool.eq_iff_iff]
  simp
 generalize (S.read x).2 = er at *
 have HRD : Hid (Calls Tryz.prog 125 #[.pointer (some ⟨X.d, 0, none⟩), .string (str x)] w fun e w' => ∃ A c, e = .returned (.tuple #[.slice A n c, .int .i64 (er : Int)]) ∧ Below w.heap.size w w') := Lib.hid (hrd.mono fun _ _ ⟨A, c, h1, _, h2⟩ => ⟨A, c, h1, h2⟩)
 have HIO := Lib.hid hio
 clear hrd hio h hn hRe
 generalize (x == Mw.kTemp) = b1 at *
 generalize (x == St.kMan1) = b2 at *
 generalize (x == St.kLog1) = b3 at *
 generalize (n == 0) = b4 at *
 have HR := Lib.hid hR
 clear hR
 cases o <;> cases b1 <;> cases b2 <;> cases b3 <;> cases b4
 all_goals
 ·go_enter Tryz.func124, Tryz.ntmps124
  go_wp2_with fail
  refine HRD.out.mono ?_
  rintro e w1 ⟨A, c, rfl, hb1⟩
  go_wp2_with fail
  refine (HIO.out _ hb1).mono ?_
  rintro e w2 ⟨rfl, hb2⟩
  have hbz := later_ hb1 hb2
  clear hb1 hb2
  go_wp2
  go_ret
  exact ⟨by rw [HR.out]; rfl, hbz⟩
theorem isnew_any (X : Dw) (S : Sd) (w : World) (h : Dm w X S) :
  Calls Tryz.prog 61 #[.pointer (some ⟨X.d, 0, none⟩)] w fun e w' => e = .returned (.bool (St.isNew S)) ∧ Below w.heap.size w w' := by
 have hV := (Below.refl w.heap.size w).alloc (Nat.le_refl _) (.cells #[.pointer (some ⟨X.d, 0, none⟩)] 29)
 have hp : (w.alloc (.cells #[.pointer (some ⟨X.d, 0, none⟩)] 29)).cell? ⟨w.heap.size, 0, none⟩ = some (.pointer (some ⟨X.d, 0, none⟩)) := by simp
 have hlt : w.heap.size < (w.alloc (.cells #[.pointer (some ⟨X.d, 0, none⟩)] 29)).heap.size := by simp
 obtain ⟨W, hW⟩ : ∃ W, W = w.alloc (.cells #[.pointer (some ⟨X.d, 0, none⟩)] 29) := ⟨_, rfl⟩
 rw [← hW] at hV hp hlt
 have h1 := h.below hV
 have hls := (Acc.start (F := []) h1).list
 have hR : St.isNew S = !(S.list.any fun s => St.isOwn s && !St.isNone S s) := rfl
 generalize St.isNew S = R at *
 have hnl := list_len h.wf
 have hnm := list_named h.wf
 have HLS := Lib.hid hls
 have HR := Lib.hid hR
 have HV := Lib.hid hW
 have H1 := Lib.hid h1
 have HP := Lib.hid hp
 clear hls hR h h1 hW
 generalize hq : (S.list.any fun s => St.isOwn s && !St.isNone S s) = q at *
 have HQ := Lib.hid hq
 clear hq
 go_enter Tryz.func61, Tryz.ntmps61
 go_wp2_with fail
 rw [← HV.out]
 refine HLS.out.mono ?_
 rintro e w1 ⟨A, c, rfl, ho, hb1⟩
 have hcf := shas_cap 124 (fun _ _ => rfl) #[.pointer (some ⟨w.heap.size, 0, none⟩)] (fun s => St.isOwn s && !St.isNone S s) A S.list.length c S.list w1 (by omega) (Row.own ho) (fun x w2 hx hb2 => new1_any X S x (by have := named_len (hnm x hx); omega) w.heap.size w2 (H1.out.below (later_ hb1 hb2)) (((later_ hb1 hb2).cell (p := ⟨w.heap.size, 0, none⟩) hlt).trans HP.out))
 rw [HQ.out] at hcf
 have HCF := Lib.hid hcf
 clear hcf ho
 go_wp2_with fail
 refine HCF.out.mono ?_
 rintro e w2 ⟨rfl, hb2⟩
 have hbz := later_ hV (later_ hb1 hb2)
 clear hb1 hb2
 go_wp2
 go_ret
 exact ⟨by rw [HR.out]; rfl, hbz⟩
end
section
open Go Go.RowKit Go.Lib Go.Shelf
variable {w w1 w2 : World} {X X1 X2 : Dw} {S S1 S2 : Sd} {Y Y1 Y2 : Yw} {V V1 V2 : Sv}
theorem Gw.rewrite_v (d : Sd) (M : Gs) (nm : List UInt8) : (Gw.rewrite d M nm).2.1.v = M.v := by
 unfold Gw.rewrite Gw.tmp Gw.hd Gw.sd1 Gw.ren Gw.fin
 repeat' split
 all_goals rfl
theorem wipe_none (S : Sd) : ∀ (l : List (List UInt8)), (∀ s ∈ l, St.isOwn s = false) → St.wipe l S = (S, 0)
 | [], _ => rfl
 | s :: r, h => by
  unfold St.wipe
  rw [h s List.mem_cons_self]
  exact wipe_none S r (fun x hx => h x (List.mem_cons_of_mem _ hx))
def SvBorn (X : Dw) (w : World) (S' : Sd) (V' : Sv) (e : Ending) (w' : World) : Prop := ∃ X' Y, e = .returned (.tuple #[.pointer (some ⟨Y.s, 0, none⟩), .int .i64 0]) ∧ X'.d = X.d ∧ SvAt w' X' S' Y V' ∧ Chg X.foot w w' ∧ (∀ g ∈ XY X' Y, g ∈ X.foot ∨ w.heap.size ≤ g)
theorem screate_any (h : Dm w X S) (hno : ∀ s ∈ S.list, St.isOwn s = false) (hld : S.load ≤ 100000000000) (S' : Sd) (V' : Sv) (hR : St.create S = (S', some V', 0)) :
  Calls Tryz.prog 62 #[.pointer (some ⟨X.d, 0, none⟩)] w (SvBorn X w S' V') := by
 have hlist := (Acc.start (F := []) h).list
 have hnl := list_len h.wf
 have hnm := list_named h.wf
 have hio : ∀ k (hk : k < S.list.length) W, Below w.heap.size w W → Calls Tryz.prog 126 #[.string (str S.list[k])] W fun e w' => e = .returned (.bool false) ∧ Below W.heap.size W w' := fun k hk W hb => by
  have := isown_any S.list[k] (by have := named_len (hnm _ (List.getElem_mem hk)); omega) W (h.env.below hb)
  rw [hno _ (List.getElem_mem hk)] at this
  exact this
 unfold St.create at hR
 rw [wipe_none S _ hno] at hR
 simp only [ne_eq, not_true_eq_false, if_false] at hR
 have hl1 := Sd.create_load S St.kLog1
 have hnew : ∀ W, Below w.heap.size w W → Calls Tryz.prog 127 #[.pointer (some ⟨X.d, 0, none⟩), .string { data := #[108, 111, 103, 46, 49] }] W (LnPost X W St.kLog1 (S.create St.kLog1)) := fun W hb => lnew_any X S St.kLog1 W (by decide) (by omega) (h.below hb)
 obtain ⟨a, ha⟩ : ∃ a, a = S.create St.kLog1 := ⟨_, rfl⟩
 rw [← ha] at hR hnew hl1
 obtain ⟨S1, er1⟩ := a
 simp only at hR hl1
 have h1 : er1 = 0 := by
  apply Classical.byContradiction
  intro h1
  rw [if_pos h1] at hR
  simp at hR
 subst h1
 simp only [not_true_eq_false, if_false] at hR
 have hnew2 : ∀ W, Below w.heap.size w W → Calls Tryz.prog 127 #[.pointer (some ⟨X.d, 0, none⟩), .string { data := #[108, 111, 103, 46, 49] }] W fun e w' => ∃ g X', e = .returned (.tuple #[.pointer (some ⟨g, 0, none⟩), .int .i64 0]) ∧ X'.d = X.d ∧ Dm w' X' S1 ∧ Chg X.foot W w' ∧ (∀ g ∈ X'.foot, g ∈ X.foot ∨ W.heap.size ≤ g) ∧ LgAt w' g X.d St.kLog1 0 0 ∧ W.heap.size ≤ g ∧ g ∉ X'.foot := fun W hb => (hnew W hb).mono fun e w' ⟨X', q1, q2, q3, q4, q5⟩ => by
  rcases q5 with ⟨q, _⟩ | ⟨_, g, q6, q7, q8, q9⟩
  ·exact absurd rfl q
  ·exact ⟨g, X', q6, q1, q2, q3, q4, q7, q8, q9⟩
 have hl2 := Sd.sync_load S1 St.kLog1
 obtain ⟨b, hb⟩ : ∃ b, b = S1.sync St.kLog1 := ⟨_, rfl⟩
 rw [← hb] at hR hl2
 obtain ⟨S2, er2⟩ := b
 simp only at hR hl2
 have h2 : er2 = 0 := by
  apply Classical.byContradiction
  intro h2
  rw [if_pos h2] at hR
  simp at hR
 subst h2
 simp only [not_true_eq_false, if_false] at hR
 obtain ⟨r, hr⟩ : ∃ r, r = Gw.rewrite S2 St.first (Mn.name Mn.kMan 1) := ⟨_, rfl⟩
 have hrv : r.2.1.v = St.first.v := by rw [hr]; exact Gw.rewrite_v _ _ _
 rw [← hr] at hR
 have h3 : r.2.2 = 0 := by
  apply Classical.byContradiction
  intro h3
  rw [if_pos h3] at hR
  simp at hR
 rw [if_neg (by simp [h3])] at hR
 simp only [Prod.mk.injEq, Option.some.injEq, and_true] at hR
 obtain ⟨hS', hV'⟩ := hR
 have hbase := h.env.base
 generalize S.list = Ls at hlist hnl hnm hno hio
 have HH := Lib.hid h
 have HL := Lib.hid hlist
 have HIO := Lib.hid hio
 have HNEW := Lib.hid hnew2
 have HSY := Lib.hid hb
 have HRW := Lib.hid (And.intro hr (And.intro h3 hrv))
 have HV := Lib.hid (And.intro hS' hV')
 have HLD := Lib.hid (show S2.load ≤ 1000000000000 by omega)
 clear h hlist hio hnew hnew2 ha hl1 hb hl2 hr hrv h3 hS' hV' hld hno hnm
 go_enter Tryz.func62, Tryz.ntmps62
 go_wp2_with fail
 with_reducible refine HL.out.mono ?_
 rintro e w1 ⟨A, c, rfl, ho, hb1⟩
 have hrow := Row.own ho
 obtain ⟨n, hn⟩ : ∃ n, n = Ls.length := ⟨_, rfl⟩
 have hn64 : n ≤ 64 := by omega
 rw [← hn] at hrow
 rw [← hn]
 have HROW := Lib.hid hrow
 have HN := Lib.hid hn
 clear ho hrow hn HL
 go_wp2
 go_loopw [14] (fun i wr => ∃ k : Nat, k ≤ n ∧ i = .int .i64 (k : Int) ∧ Below w.heap.size w wr ∧ Below w1.heap.size w1 wr) (fun i _ => n - (intOf i).toNat)
 case atStart => exact ⟨0, Nat.zero_le _, rfl, hb1, Below.refl _ _⟩
 case round =>
  obtain ⟨k, hk, rfl, hbw, hbl⟩ := hrel
  by_cases hlt : k < n
  ·obtain ⟨p, hl, rfl, hbk, c0⟩ := (HROW.out.below hbl).enc hlt
   have hio := HIO.out k hl wr hbw
   generalize Ls[k] = s at *
   have HI := Lib.hid hio
   clear hio hl
   go_wp2_with fail
   with_reducible refine HI.out.mono ?_
   rintro e w2 ⟨rfl, hb2⟩
   have hbz := later_ hbw hb2
   have hbz1 := later_ hbl hb2
   clear hb2 HI
   go_wp2
   go_roundw
   case rel => exact ⟨k + 1, by omega, by go_num, hbz, hbz1⟩
   case measure => simp [intOf]; omega
  ·go_wp2_with fail
   with_reducible refine (HNEW.out wr hbw).mono ?_
   rintro e w2 ⟨g, X1, rfl, e1, hd1, hc1, hf1, hlg, hgl, hgo⟩
   have hgw : w.heap.size ≤ g := Nat.le_trans hbw.size hgl
   have hsy := lsync_any X1 S1 g St.kLog1 0 0 w2 (by decide) hd1 (by rw [e1]; exact hlg) hgo
   rw [← HSY.out] at hsy
   have HS := Lib.hid hsy
   have HD := Lib.hid hd1
   have HC1 := Lib.hid (And.intro ((Chg.of_below hbw X.foot).trans hc1 (fun g hg => .inl hg)) (fun g hg => (hf1 g hg).imp id (Nat.le_trans hbw.size) : ∀ g ∈ X1.foot, g ∈ X.foot ∨ w.heap.size ≤ g))
   have HLG := Lib.hid (And.intro hlg (And.intro hgw hgo))
   have HE1 := Lib.hid e1
   clear hsy hd1 hc1 hf1 hlg hgl hgo hgw e1 hbw hbl HNEW HIO HROW hb1
   go_wp2_with fail
   with_reducible refine HS.out.mono ?_
   rintro e w3 ⟨rfl, X2, e2, hd2, hc2, hf2⟩
   have hlg3 := HLG.out.1.chg hc2 HLG.out.2.2
   have hg2 : g ∉ X2.foot := fun hm => by
    rcases hf2 g hm with q | q
    ·exact HLG.out.2.2 q
    ·have := HLG.out.1.lt
     omega
   have hc3 := HC1.out.1.trans hc2 HC1.out.2
   have hf3 : ∀ g ∈ X2.foot, g ∈ X.foot ∨ w.heap.size ≤ g := fun g hg => by
    rcases hf2 g hg with q | q
    ·exact HC1.out.2 g q
    ·exact .inr (Nat.le_trans HC1.out.1.size q)
   have hmn := gnew_any (w := w3) (X := X2) (S := S2) ⟨1, [], 0, 0, 0, 0⟩ none 0 0 (by decide) (by omega) (by omega) (Nat.zero_le _) Row.nil_ HLD.out hd2 _ HRW.out.1 HRW.out.2.1
   rw [e2, HE1.out] at hmn
   unfold Vw.val at hmn
   simp only [Int.natCast_zero] at hmn
   have HMN := Lib.hid hmn
   have HLG3 := Lib.hid (And.intro hlg3 hg2)
   have HC3 := Lib.hid (And.intro hc3 hf3)
   have HE2 := Lib.hid (e2.trans HE1.out)
   clear hmn hlg3 hg2 hc3 hf3 e2 hd2 hc2 hf2 HS HD HC1
   go_wp2_with fail
   with_reducible refine HMN.out.mono ?_
   rintro e w4 ⟨P, m, X3, rfl, hbn⟩
   have hnw := mmnew_any w4
   have HNW := Lib.hid hnw
   have HBN := Lib.hid hbn
   clear hnw hbn HMN
   go_wp2_with fail
   with_reducible refine HNW.out.mono ?_
   rintro e w5 ⟨mm, L, ns, rfl, hmm, hits, hb5, hlow⟩
   have hfin : SvBorn X w S' V' (.returned (.tuple #[.pointer (some ⟨w5.heap.size, 0, none⟩), .int .i64 0])) (w5.alloc (.cells #[.pointer (some ⟨X.d, 0, none⟩), .pointer (some ⟨m, 0, none⟩), .pointer (some ⟨g, 0, none⟩), .pointer (some ⟨mm, 0, none⟩), .slice none 0 0, .slice none 0 0, .int .i64 0, .int .u32 0, .int .i32 0, .int .u32 0, .bool false] 90)) := by
    obtain ⟨hS', hV'⟩ := HV.out
    subst hS' hV'
    have bn := HBN.out
    have hbA := (Below.refl w5.heap.size w5).alloc (Nat.le_refl _) (.cells #[.pointer (some ⟨X.d, 0, none⟩), .pointer (some ⟨m, 0, none⟩), .pointer (some ⟨g, 0, none⟩), .pointer (some ⟨mm, 0, none⟩), .slice none 0 0, .slice none 0 0, .int .i64 0, .int .u32 0, .int .i32 0, .int .u32 0, .bool false] 90)
    have hbx := BoxO.new w5 #[.pointer (some ⟨X.d, 0, none⟩), .pointer (some ⟨m, 0, none⟩), .pointer (some ⟨g, 0, none⟩), .pointer (some ⟨mm, 0, none⟩), .slice none 0 0, .slice none 0 0, .int .i64 0, .int .u32 0, .int .i32 0, .int .u32 0, .bool false] 90
    have hb45 := later_ hb5 hbA
    have z3 : w3.heap.size ≤ w4.heap.size := bn.c.size
    have z4 := hb5.size
    have zg := HLG3.out.1.lt
    have zm := bn.new
    have zm4 := bn.man.lt
    have zl : ∀ g ∈ mm :: skF L ns, w4.heap.size ≤ g ∧ g < w5.heap.size := fun g hg => ⟨hlow g hg, hmm.lt g hg⟩
    have zx : ∀ g ∈ X3.foot, g < w4.heap.size := bn.dm.dk.lt
    have zw : w.heap.size ≤ w3.heap.size := HC3.out.1.size
    have hg3 : g ∉ X3.foot := fun hm => by
     rcases bn.f g hm with q | q
     ·exact HLG3.out.2 q
     ·omega
    have e3 : X3.d = X.d := bn.e.trans HE2.out
    refine ⟨X3, ⟨w5.heap.size, m, g, mm, L, ns, P, ⟨none, 0, 0⟩, ⟨none, 0, 0⟩, []⟩, rfl, e3, ⟨bn.dm.below hb45, by rw [e3]; exact hbx, by rw [bn.e]; exact bn.man.below hb45, bn.row.below hb45, fun j hj a ha => ?_, by rw [e3]; exact (HLG3.out.1.chg bn.c HLG3.out.2).below hb45, hmm.below hbA, hits, fun _ _ => ⟨rfl, Row.nil_, Nat.le_refl _, Nat.zero_le _, fun _ => ⟨rfl, rfl⟩, fun p hp => by cases hp⟩, fun _ _ => Its.nil 0 _, ⟨?_, ?_, ?_, fun hm => ?_⟩, ?_⟩, ?_, ?_⟩
    ·exfalso
     have q := HRW.out.2.2
     change j < (fcells r.2.1.v.files).length at hj
     rw [q] at hj
     exact Nat.not_lt_zero _ hj
    ·intro x hx hm
     have := zx x hm
     rcases Yw.mem_foot.1 hx with q | q | q | q | q
     ·have : x = w5.heap.size := q
      omega
     ·exact bn.away (by rw [← show x = m from q]; exact hm)
     ·exact hg3 (by rw [← show x = g from q]; exact hm)
     ·have := zl x (by rw [show x = mm from q]; exact List.mem_cons_self)
      omega
     ·have := zl x (List.mem_cons_of_mem _ q)
      omega
    ·intro hm
     rcases List.mem_cons.1 hm with q | q
     ·have : w5.heap.size = m := q
      omega
     ·rcases List.mem_cons.1 q with q | q
      ·have : w5.heap.size = g := q
       omega
      ·have := zl _ q
       simp only at this
       omega
    ·intro hm
     rcases List.mem_cons.1 hm with q | q
     ·have : m = g := q
      omega
     ·have := zl _ q
      simp only at this
      omega
    ·have := zl _ hm
     simp only at this
     omega
    ·intro x hx
     rcases Yw.mem_foot.1 hx with q | q | q | q | q
     ·have : x = w5.heap.size := q
      omega
     ·have : x = m := q
      omega
     ·have : x = g := q
      have := HLG.out.2.1
      omega
     ·have := zl x (by rw [show x = mm from q]; exact List.mem_cons_self)
      omega
     ·have := zl x (List.mem_cons_of_mem _ q)
      omega
    ·exact (HC3.out.1.trans bn.c HC3.out.2).trans (Chg.of_below hb45 []) (fun g hg => by cases hg)
    ·intro x hx
     rcases List.mem_append.1 hx with q | q
     ·rcases bn.f x q with q | q
      ·exact HC3.out.2 x q
      ·exact .inr (by omega)
     ·right
      rcases Yw.mem_foot.1 q with q | q | q | q | q
      ·have : x = w5.heap.size := q
       omega
      ·have : x = m := q
       omega
      ·have : x = g := q
       have := HLG.out.2.1
       omega
      ·have := zl x (by rw [show x = mm from q]; exact List.mem_cons_self)
       omega
      ·have := zl x (List.mem_cons_of_mem _ q)
       omega
   have HF := Lib.hid hfin
   clear hfin hmm hits hb5 hlow HNW HBN
   go_wp2
   refine bodyPost_ret (v := .tuple #[.pointer (some ⟨w5.heap.size, 0, none⟩), .int .i64 0]) (by simp [results, go_sem]) rfl HF.out
end
section
open Go
open Calm (mem_list)
theorem own_number {s : List UInt8} (h : St.isOwn s = false) : Mn.number s Mn.kMan = none ∧ Mn.number s Mn.kLog = none ∧ s ≠ Mw.kCur ∧ s ≠ Mw.kTemp := by
 unfold St.isOwn at h
 simp only [Bool.or_eq_false_iff, List.any_cons, List.any_nil, Bool.or_false] at h
 obtain ⟨⟨h1, h2⟩, h3, h4, h5⟩ := h
 refine ⟨by cases hq : Mn.number s Mn.kMan <;> simp [hq] at h5 ⊢, by cases hq : Mn.number s Mn.kLog <;> simp [hq] at h3 ⊢, by simpa using h1, by simpa using h2⟩
namespace Gw
open Mn
open Mw (kCur kTemp headB sweep man rest man_named man_cur man_temp man_inj cur_temp cur_named temp_named number_man number_cur number_temp sweep_none sweep_one list_nodup)
theorem rewrite_core2 {d : Sd} {M : Gs} (hv : M.v.ok = true) {k B : Nat} {K : List (List UInt8)} (h : Calm d) (hk1 : 1 ≤ k) (hk2 : k ≤ 1073741824) (hs0 : Small d K B) (hK : K.length ≤ 40) (ht0 : cont d kTemp = none) (hnone : cont d (man k) = none)
  (hB : 2100 ≤ B) (hq : (K.length + 4) * B ≤ d.quota) :
  ∃ d6, Calm d6 ∧ cont d6 = upd (upd (upd (upd (cont d) (man k) (some (M.v.whole.rec_))) kTemp (some (headB k))) kCur (some (headB k))) kTemp none ∧ d6.quota = d.quota ∧ rewrite d M (man k) = (sweep (man k) d6.list d6, { M with name := man k, count := 1 }, 0) := by
 have hr := Ed.rec_len (Vw.whole_may hv)
 have hh := headB_len k
 have hnum : (number (man k) kMan).getD 0 = (k : Int) := by rw [number_man hk1 hk2]; rfl
 obtain ⟨Q, hQ⟩ : ∃ Q, Q = K.length * B := ⟨_, rfl⟩
 have e1 : (K.length + 4) * B = Q + 4 * B := by rw [Nat.add_mul, ← hQ]
 have e2 : (K.length + 1) * B = Q + B := by rw [Nat.add_mul, ← hQ, Nat.one_mul]
 have e3 : (K.length + 1 + 1) * B = Q + 2 * B := by rw [Nat.add_assoc, Nat.add_mul, ← hQ]
 obtain ⟨a1, a2, a3, a4⟩ := h.write (man_named hk1 hk2) hnone hs0 (by omega) M.v.whole.rec_ (by omega) (by omega)
 have htk : kTemp ≠ man k := (man_temp hk1 hk2).symm
 have ht1 : cont (d.write (man k) M.v.whole.rec_).1 kTemp = none := by rw [a3, upd, if_neg htk]; exact ht0
 have hrd := a2.read_none temp_named ht1
 have hs1 : Small (d.write (man k) M.v.whole.rec_).1 (man k :: K) B := ⟨fun s x hx => by
  rw [a3, upd] at hx
  split at hx
  ·subst_vars; simp
  ·exact List.mem_cons_of_mem _ (hs0.names s x hx), fun s x hx => by
  rw [a3, upd] at hx
  split at hx
  ·injection hx with hx; subst hx; omega
  ·exact hs0.len s x hx⟩
 obtain ⟨b1, b2, b3, b4⟩ := a2.write temp_named ht1 hs1 (by simp; omega) (headB k) (by omega) (by rw [List.length_cons]; omega)
 obtain ⟨e1, e2, e3, e4⟩ := b2.syncDir
 have htm : cont ((d.write (man k) M.v.whole.rec_).1.write kTemp (headB k)).1.syncDir.1 kTemp = some (headB k) := by rw [e3, b3, upd, if_pos rfl]
 obtain ⟨f1, f2, f3, f4⟩ := e2.rename temp_named cur_named cur_temp.symm htm
 obtain ⟨g1, g2, g3, g4⟩ := f2.syncDir
 refine ⟨(((((d.write (man k) M.v.whole.rec_).1.write kTemp (headB k)).1.syncDir).1.rename kTemp kCur).1.syncDir).1, g2, ?_, ?_, ?_⟩
 ·rw [g3, f3, e3, b3, a3]
 ·rw [g4, f4, e4, b4, a4]
 ·unfold rewrite
  rw [if_neg (by simp [a1]), tmp, if_neg (by rw [hrd]; simp), hd, hnum, if_neg (by simp [b1]), sd1, if_neg (by simp [e1]), ren, if_neg (by simp [f1]), fin, if_neg (by simp [g1])]
end Gw
theorem create_other {d : Sd} {K : List (List UInt8)} {B : Nat} (h : Calm d) (hs0 : Small d K B) (hK : K.length ≤ 30) (hno : ∀ s x, cont d s = some x → St.isOwn s = false) (hB : 2100 ≤ B) (hq : (K.length + 5) * B ≤ d.quota) :
  ∃ d6, St.create d = (d6, some ⟨{ St.first with name := Mw.man 1, count := 1 }, St.kLog1, 0, 0, [], [], [], false⟩, 0) ∧ Calm d6 ∧ d6.quota = d.quota ∧
   cont d6 = upd (upd (upd (upd (upd (cont d) St.kLog1 (some [])) (Mw.man 1) (some (St.first.v.whole.rec_))) Mw.kTemp (some (Mw.headB 1))) Mw.kCur (some (Mw.headB 1))) Mw.kTemp none := by
 have own1 : St.isOwn St.kLog1 = true := by decide +kernel
 have own2 : St.isOwn (Mw.man 1) = true := by decide +kernel
 have own3 : St.isOwn Mw.kTemp = true := by decide +kernel
 have hnone : ∀ s, St.isOwn s = true → cont d s = none := fun s hs => by
  cases hc : cont d s with
  | none => rfl
  | some x => rw [hno s x hc] at hs; cases hs
 have hw := wipe_none d d.list (fun s hs => by
  obtain ⟨x, hx⟩ := h.mem_list.1 hs
  exact hno s x hx)
 obtain ⟨ln, lu⟩ := h.length_names hs0
 obtain ⟨a1, a2, a3, a4⟩ := h.create (s := St.kLog1) (by decide +kernel) (hnone _ own1) (by omega)
 obtain ⟨b1, b2, b3, b4⟩ := a2.sync (s := St.kLog1) (by decide +kernel) (x := []) (by rw [a3, upd, if_pos rfl])
 have hs1 : Small ((d.create St.kLog1).1.sync St.kLog1).1 (St.kLog1 :: K) B := ⟨fun s x hx => by
  rw [b3, a3, upd] at hx
  split at hx
  ·subst_vars; simp
  ·exact List.mem_cons_of_mem _ (hs0.names s x hx), fun s x hx => by
  rw [b3, a3, upd] at hx
  split at hx
  ·injection hx with hx; subst hx; simp
  ·exact hs0.len s x hx⟩
 have ne1 : Mw.kTemp ≠ St.kLog1 := by decide
 have ne2 : Mw.man 1 ≠ St.kLog1 := by decide +kernel
 obtain ⟨d6, c1, c2, c3, c4⟩ := Gw.rewrite_core2 (M := St.first) (by decide +kernel) (k := 1) b2 (by omega) (by omega) hs1 (by rw [List.length_cons]; omega) (by rw [b3, a3, upd, if_neg ne1]; exact hnone _ own3) (by rw [b3, a3, upd, if_neg ne2]; exact hnone _ own2) hB (by rw [b4, a4, List.length_cons]; exact hq)
 have hsw : Mw.sweep (Mw.man 1) d6.list d6 = d6 := Mw.sweep_none _ _ _ (fun s hs hn => by
  obtain ⟨x, hx⟩ := c1.mem_list.1 hs
  rw [c2, b3, a3] at hx
  unfold upd at hx
  split at hx
  ·cases hx
  ·split at hx
   ·rename_i h2
    rw [h2, Mw.number_cur] at hn
    cases hn
   ·split at hx
    ·assumption
    ·split at hx
     ·rename_i h2
      rw [h2, show Mn.number St.kLog1 Mn.kMan = none from by decide +kernel] at hn
      cases hn
     ·rw [(own_number (hno s x hx)).1] at hn
      cases hn)
 refine ⟨d6, ?_, c1, by rw [c3, b4, a4], by rw [c2, b3, a3]; rfl⟩
 unfold St.create
 rw [hw]
 simp only [ne_eq, not_true_eq_false, if_false, a1, b1]
 rw [show Mn.name Mn.kMan 1 = Mw.man 1 from rfl, c4, hsw]
 simp
end
section
open Go Go.RowKit
namespace Sonce
open Once
theorem slow_any (b : Nat) (pl : Addr) (hpb : ¬ b = pl.block) (x3 : Value) (w : World) (hp : w.cell? pl = some (.pointer (some ⟨b, 0, none⟩)))
  (h0 : w.cell? ⟨b, 7, none⟩ = some (.int .u32 0)) (h1 : w.cell? ⟨b, 8, none⟩ = some (.int .i32 0)) (h3 : w.cell? ⟨b, 10, none⟩ = some x3)
  (f0 : w.frozen? ⟨b, 7, none⟩ = false) (f1 : w.frozen? ⟨b, 8, none⟩ = false) (f3 : w.frozen? ⟨b, 10, none⟩ = false) :
  Calls Tryz.prog 253 #[.pointer (some ⟨b, 7, none⟩), .func (.func 223) #[] #[.pointer (some pl)]] w fun e w' => e = .returned (.tuple #[]) ∧
   w' = (((w.setCell ⟨b, 8, none⟩ (.int .i32 1)).setCell ⟨b, 10, none⟩ (.bool true)).drew.setCell ⟨b, 7, none⟩ (.int .u32 1)).setCell ⟨b, 8, none⟩ (.int .i32 0) := by
 have hl := run_call_load (P := Tryz.prog) Tryz.func274 (by kernel_rfl) (by kernel_rfl) (by kernel_rfl) .u32 (by kernel_rfl) (w := w.setCell ⟨b, 8, none⟩ (.int .i32 1)) (a := ⟨b, 7, none⟩) (x := 0) ((World.cell?_setCell_other _ ⟨b, 8, none⟩ ⟨b, 7, none⟩ _ (by simp)).trans h0)
 have hp1 : (w.setCell ⟨b, 8, none⟩ (.int .i32 1)).cell? pl = some (.pointer (some ⟨b, 0, none⟩)) := (World.cell?_setCell_other _ ⟨b, 8, none⟩ pl _ (fun h => hpb (by rw [← h]))).trans hp
 have h31 : (w.setCell ⟨b, 8, none⟩ (.int .i32 1)).cell? ⟨b, 10, none⟩ = some x3 := (World.cell?_setCell_other _ ⟨b, 8, none⟩ ⟨b, 10, none⟩ _ (by simp)).trans h3
 have hnot : ∀ (x : Bool) (w : World), (Op.unary .not (.bool x)).run Tryz.prog w = .ok (.bool (!x)) w := fun _ _ => rfl
 go_enter_defers Tryz.func253, Tryz.ntmps253
 go_wp2_with (go_at_call 275; refine (lock_free ⟨b, 8, none⟩ _ (by go_simp) (by go_simp)).mono ?_; rintro e w' ⟨rfl, rfl⟩)
 go_wp2
 go_end0
 go_wp2
 -- THE DOOR: two deferred calls, the last laid first
 refine leaves_cons (f := 277) (args := #[.pointer (some ⟨b, 7, none⟩), .bool true]) (by simp) (by simp [go_sem]) ?_
 refine (store_deferred ⟨b, 7, none⟩ (.int .u32 0) .returning _ ?_ (by simp [f0])).mono ?_
 ·exact (World.cell?_setCell_other _ ⟨b, 10, none⟩ ⟨b, 7, none⟩ _ (by simp)).trans ((World.cell?_setCell_other _ ⟨b, 8, none⟩ ⟨b, 7, none⟩ _ (by simp)).trans h0)
 rintro e u' w'' ⟨rfl, rfl, rfl⟩
 refine leaves_cons (f := 276) (args := #[.pointer (some ⟨b, 8, none⟩)]) (by simp [settle]) (by simp [go_sem]) ?_
 refine (unlock_deferred ⟨b, 8, none⟩ _ _ ?_ (by simp [f1])).mono ?_
 ·refine (World.cell?_setCell_other _ ⟨b, 7, none⟩ ⟨b, 8, none⟩ _ (by simp)).trans ?_
  rw [World.cell?_drew]
  exact (World.cell?_setCell_other _ ⟨b, 10, none⟩ ⟨b, 8, none⟩ _ (by simp)).trans (World.cell?_setCell_same w _ _ h1)
 rintro e u' w'' ⟨rfl, rfl, rfl⟩
 simp [Leaves, settle, results, Tryz.results253]
theorem do_first (b : Nat) (pl : Addr) (hpb : ¬ b = pl.block) (x3 : Value) (w : World) (hp : w.cell? pl = some (.pointer (some ⟨b, 0, none⟩)))
  (h0 : w.cell? ⟨b, 7, none⟩ = some (.int .u32 0)) (h1 : w.cell? ⟨b, 8, none⟩ = some (.int .i32 0)) (h3 : w.cell? ⟨b, 10, none⟩ = some x3)
  (f0 : w.frozen? ⟨b, 7, none⟩ = false) (f1 : w.frozen? ⟨b, 8, none⟩ = false) (f3 : w.frozen? ⟨b, 10, none⟩ = false) :
  Calls Tryz.prog 222 #[.pointer (some ⟨b, 7, none⟩), .func (.func 223) #[] #[.pointer (some pl)]] w fun e w' => e = .returned (.tuple #[]) ∧ w' = ((((w.setCell ⟨b, 8, none⟩ (.int .i32 1)).setCell ⟨b, 10, none⟩ (.bool true)).drew.setCell ⟨b, 7, none⟩ (.int .u32 1)).setCell ⟨b, 8, none⟩ (.int .i32 0)) := by
 have hl := run_call_load (P := Tryz.prog) Tryz.func274 (by kernel_rfl) (by kernel_rfl) (by kernel_rfl) .u32 (by kernel_rfl) h0
 have hnot : ∀ (x : Bool) (w : World), (Op.unary .not (.bool x)).run Tryz.prog w = .ok (.bool (!x)) w := fun _ _ => rfl
 go_enter Tryz.func222, Tryz.ntmps222
 go_wp2_with (first | (go_at_call 253; refine (slow_any b pl hpb x3 _ hp h0 h1 h3 f0 f1 f3).mono ?_; rintro e w' ⟨rfl, rfl⟩) | (go_at_call 252; go_in))
 go_end0
 exact ⟨rfl, rfl⟩
end Sonce
end
section
open Go Go.RowKit Go.Lib Go.Shelf
variable {w w1 w2 : World} {X X1 X2 : Dw} {S S1 S2 : Sd} {Y Y1 Y2 : Yw} {V V1 V2 : Sv}
theorem sclose_any (h : SvAt w X S Y V) (er : Nat) :
  Calls Tryz.prog 177 #[.pointer (some ⟨Y.s, 0, none⟩), .int .i64 (er : Int)] w fun e w' => e = .returned (.int .i64 (er : Int)) ∧ SvAt w' X S Y { V with only := true } ∧ Chg (XY X Y) w w' := by
 have hbA := (Below.refl w.heap.size w).alloc (Nat.le_refl _) (.cells #[.pointer (some ⟨Y.s, 0, none⟩)] 30)
 have hlt := h.box.lt
 have h1 := h.below hbA
 have hp : (w.alloc (.cells #[.pointer (some ⟨Y.s, 0, none⟩)] 30)).cell? ⟨w.heap.size, 0, none⟩ = some (.pointer (some ⟨Y.s, 0, none⟩)) := by simp
 obtain ⟨W, hW⟩ : ∃ W, W = w.alloc (.cells #[.pointer (some ⟨Y.s, 0, none⟩)] 30) := ⟨_, rfl⟩
 rw [← hW] at hbA h1 hp
 have HV := Lib.hid hW
 clear hW
 have c7 := h1.box.cell 7
 have c8 := h1.box.cell 8
 have c10 := h1.box.cell 10
 simp only [Yw.cells, gE0, gE1] at c7 c8 c10
 have hmf : ∀ (fn : Fn) (first cap : Array Value) (w : World), (Instr.makeFunc fn first cap).run Tryz.prog w = .ok (.func fn first cap) w := fun _ _ _ _ => rfl
 cases hb : V.only with
 | false =>
  rw [hb] at c7 c10
  simp only [Bool.false_eq_true, if_false] at c7
  have hdo := Sonce.do_first Y.s ⟨w.heap.size, 0, none⟩ (by simp; omega) _ W hp c7 c8 c10 (h1.box.free 7) (h1.box.free 8) (h1.box.free 10)
  have hbx := ((((h1.box.store 8 (.int .i32 1)).store 10 (.bool true)).drew.store 7 (.int .u32 1)).store 8 (.int .i32 0))
  have hcc : Chg [Y.s] W ((((W.setCell ⟨Y.s, 8, none⟩ (.int .i32 1)).setCell ⟨Y.s, 10, none⟩ (.bool true)).drew.setCell ⟨Y.s, 7, none⟩ (.int .u32 1)).setCell ⟨Y.s, 8, none⟩ (.int .i32 0)) := (((((Chg.refl [Y.s] W).setCell _ (.inl (by simp))).setCell _ (.inl (by simp))).drew).setCell _ (.inl (by simp))).setCell _ (.inl (by simp))
  have hfin := h1.sbox (Y1 := Y) (V1 := { V with only := true }) hcc hbx rfl rfl (h1.st.step (hcc.mono fun g hg => .inl (by rw [List.mem_singleton.1 hg]; exact List.mem_append_right _ (Yw.mem_foot.2 (.inl rfl)))) (fun g hg => .inl hg))
  have HR := Lib.hid (And.intro hfin.1 ((Chg.of_below hbA (XY X Y)).trans hfin.2 (fun g hg => .inl hg)))
  clear hfin hcc hbx hb h h1 hbA c10
  go_enter Tryz.func177, Tryz.ntmps177
  go_wp2_with fail
  rw [← HV.out]
  refine hdo.mono ?_
  rintro e w2 ⟨rfl, rfl⟩
  go_wp2
  go_ret
  exact ⟨rfl, HR.out⟩
 | true =>
  rw [hb] at c7
  simp only [if_true] at c7
  have hdo := Once.do_done ⟨Y.s, 7, none⟩ 1 (by omega) (.func (.func 223) #[] #[.pointer (some ⟨w.heap.size, 0, none⟩)]) W c7
  have e : ({ V with only := true } : Sv) = V := by cases V; simp at hb; simp [hb]
  have HR := Lib.hid (And.intro (show SvAt W X S Y { V with only := true } by rw [e]; exact h1) (Chg.of_below hbA (XY X Y)))
  clear hb h h1 hbA c10 e
  go_enter Tryz.func177, Tryz.ntmps177
  go_wp2_with fail
  rw [← HV.out]
  refine hdo.mono ?_
  rintro e w2 ⟨rfl, hw2⟩
  obtain rfl := hw2.symm
  go_wp2
  go_ret
  exact ⟨rfl, HR.out⟩
end
section
open Go Go.RowKit Go.Lib Go.Shelf
variable {w w1 w2 : World} {X X1 X2 : Dw} {S S1 S2 : Sd} {Y Y1 Y2 : Yw} {V V1 V2 : Sv}
theorem sset_any (h : SvAt w X S Y V) (A : Option Addr) (n c : Nat) (l : List It) (hA : Fixed (XY X Y) w fun w => Its 0 w A n c l) :
  Calls Tryz.prog 32 #[.pointer (some ⟨Y.s, 0, none⟩), .slice A n c] w fun e w' => e = .returned (.tuple #[]) ∧ SvAt w' X S { Y with A := ⟨A, n, c⟩ } { V with st := l } ∧ Chg (XY X Y) w w' := by
 have c5 := h.box.cell 5
 have f5 := h.box.free 5
 have hb1 := h.box.store 5 (.slice A n c)
 have c6 := hb1.cell 6
 have f6 := hb1.free 6
 have hb2 := hb1.store 6 (.int .i64 (n : Int))
 simp only [Yw.cells, gE0, gE1, List.set] at c5 c6
 have HST := Lib.hid (aistore_any Y.s 6 _ (n : Int) _ c6 f6)
 have hcc : Chg [Y.s] w ((w.setCell ⟨Y.s, 5, none⟩ (.slice A n c)).setCell ⟨Y.s, 6, none⟩ (.int .i64 (n : Int))) := ((Chg.refl _ _).setCell _ (.inl (by simp))).setCell _ (.inl (by simp))
 have hcc2 : Chg (XY X Y) w ((w.setCell ⟨Y.s, 5, none⟩ (.slice A n c)).setCell ⟨Y.s, 6, none⟩ (.int .i64 (n : Int))) := hcc.mono fun g hg => .inl (by
  rw [List.mem_singleton.1 hg]
  exact List.mem_append_right _ (Yw.mem_foot.2 (.inl rfl)))
 have hfin := h.sbox (Y1 := { Y with A := ⟨A, n, c⟩ }) (V1 := { V with st := l }) hcc hb2 rfl rfl (hA.step hcc2 (fun g hg => .inl hg))
 have HF := Lib.hid hfin
 clear hfin hcc hcc2 hb2 hb1 c6 f6 hA h
 go_enter Tryz.func32, Tryz.ntmps32
 go_wp2_with fail
 refine HST.out.mono ?_
 rintro e w1 ⟨rfl, rfl⟩
 go_wp2
 exact bodyPost_end (v := .tuple #[]) (by simp [results, go_sem]) rfl ⟨rfl, HF.out.1, HF.out.2⟩
theorem sown_any (A : Option Addr) (n c : Nat) (l : List It) (w : World) (hn : n ≤ 1000000) (hr : Row w.heap.size w A n 5 (itc l)) :
  Calls Tryz.prog 33 #[.slice A n c] w fun e w' => ∃ A' c', e = .returned (.slice A' n c') ∧ w'.ownsRow w.heap.size 27 5 (.slice A' n c') n (itc l) ∧ Below w.heap.size w w' := by
 obtain ⟨i0, hi0, hz0, hz1, hz2⟩ := info_parts info_item
 have HR := Lib.hid hr
 clear hr
 go_enter Tryz.func33, Tryz.ntmps33
 go_wp2_with (at_builtin; refine stop_in ?_)
 refine stop_out (wpList_app0 rfl _ (.tmp 3) _ rfl w.heap.size 27 i0 _ 5 40 Tryz.underlying24 hi0 hz0 hz1 hz2 rfl (by omega) w (Below.refl _ _) (Nat.le_refl _) rfl w.heap.size A n c (itc l) rfl HR.out (itc_one l) (by unfold maxLen; omega) (by omega) ?_)
 intro A' c' w' h1 h2 h3 h4 h5
 go_wp2
 go_ret
 exact ⟨_, _, rfl, h1, h2⟩
theorem sstate_any (h : SvAt w X S Y V) (hn : V.st.length ≤ 1000000) :
  Calls Tryz.prog 10 #[.pointer (some ⟨Y.s, 0, none⟩)] w fun e w' => ∃ A' c', e = .returned (.slice A' Y.A.n c') ∧ w'.ownsRow w.heap.size 27 5 (.slice A' Y.A.n c') Y.A.n (itc V.st) ∧ Below w.heap.size w w' := by
 have c5 := h.box.cell 5
 simp only [Yw.cells, gE0, gE1] at c5
 have HS := Lib.hid (sown_any Y.A.a Y.A.n Y.A.c V.st w (by rw [h.alen]; omega) h.st.now.row)
 clear h
 go_enter Tryz.func10, Tryz.ntmps10
 go_wp2_with fail
 refine HS.out.mono ?_
 rintro e w1 ⟨A', c', rfl, h1, h2⟩
 go_wp2
 go_ret
 exact ⟨_, _, rfl, h1, h2⟩
end
section
open Go Go.RowKit Go.Lib Go.Shelf
variable {w w1 w2 : World} {X X1 X2 : Dw} {S S1 S2 : Sd} {Y Y1 Y2 : Yw} {V V1 V2 : Sv}
theorem SvAt.put (h : SvAt w X S Y V) (e : X1.d = X.d) (hd : Dm w1 X1 S1) (c : Chg (Y.g :: X.foot) w w1) (hf : ∀ g ∈ X1.foot, g ∈ X.foot ∨ w.heap.size ≤ g) {sz ct : Nat} (hl : LgAt w1 Y.g X.d V.nm sz ct) : SvAt w1 X1 S1 Y { V with sz := sz, ct := ct } ∧ Chg (XY X Y) w w1 ∧ ∀ g ∈ XY X1 Y, g ∈ XY X Y ∨ w.heap.size ≤ g := by
 have hn : ∀ g ∈ Y.foot, g ∉ X.foot := h.apart.x
 have hgf : Y.g ∈ Y.foot := Yw.mem_foot.2 (.inr (.inr (.inl rfl)))
 have hc2 : Chg (XY X Y) w w1 := c.mono fun g hg => .inl (by
  rcases List.mem_cons.1 hg with rfl | hg
  ·exact List.mem_append_right _ hgf
  ·exact List.mem_append_left _ hg)
 have hf2 : ∀ g ∈ XY X1 Y, g ∈ XY X Y ∨ w.heap.size ≤ g := fun g hg => by
  rcases List.mem_append.1 hg with h1 | h1
  ·rcases hf g h1 with h2 | h2
   ·exact .inl (List.mem_append_left _ h2)
   ·exact .inr h2
  ·exact .inl (List.mem_append_right _ h1)
 have hm : ∀ g ∈ Y.foot, g ≠ Y.g → g ∉ Y.g :: X.foot := fun g hg hne hmm => by
  rcases List.mem_cons.1 hmm with q | q
  ·exact hne q
  ·exact hn g hg q
 have aps := h.apart.s
 have apm := h.apart.m
 have apg := h.apart.g
 refine ⟨⟨hd, by rw [e]; exact h.box.chg c (hm _ (Yw.mem_foot.2 (.inl rfl)) (fun e => aps (by rw [e]; exact List.mem_cons_of_mem _ List.mem_cons_self))), by rw [e]; exact h.man.chg c (hm _ (Yw.mem_foot.2 (.inr (.inl rfl))) (fun e => apm (by rw [e]; exact List.mem_cons_self))), ?_, h.pout, by rw [e]; exact hl, h.mem.chg c (fun g hg => hm g (Yw.mem_foot.2 ?_) (fun e => apg (by rw [← e]; exact hg))), h.its, h.tabs.step hc2 hf2, h.st.step hc2 hf2, ⟨fun g hg hmm => ?_, aps, apm, apg⟩, h.ng⟩, hc2, hf2⟩
 ·refine ⟨(row_chg c h.row.row (Nat.le_refl _) (fun j hj a ha hmm => ?_)).up c.size, h.row.nc, h.row.cm, h.row.nb, fun j hj a ha => ⟨(h.row.away j hj a ha).1, fun hmm => ?_⟩⟩
  ·rcases List.mem_cons.1 hmm with q | q
   ·exact h.pout j hj a ha (by rw [q]; exact hgf)
   ·exact (h.row.away j hj a ha).2 q
  ·rcases hf _ hmm with h1 | h1
   ·exact (h.row.away j hj a ha).2 h1
   ·obtain ⟨b, e, q1, _⟩ := h.row.row.cell j hj
    rw [ha] at e
    injection e with e
    subst e
    omega
 ·rcases List.mem_cons.1 hg with rfl | hg
  ·exact .inr (.inr (.inr (.inl rfl)))
  ·exact .inr (.inr (.inr (.inr hg)))
 ·rcases hf g hmm with h1 | h1
  ·exact hn g hg h1
  ·have := h.ylt g hg
   omega
theorem SvAt.mput (h : SvAt w X S Y V) {ns' : List Nd} (hm : MmAt w1 Y.mm Y.L ns') (c : Chg (Y.mm :: skF Y.L Y.ns) w w1) (hf : ∀ g ∈ skF Y.L ns', g ∈ skF Y.L Y.ns ∨ w.heap.size ≤ g) : SvAt w1 X S { Y with ns := ns' } { V with mem := Go.Proofs.YtdkjoigpahafmaaGreatDoor.its ns' } ∧ Chg (XY X Y) w w1 ∧ ∀ g ∈ XY X { Y with ns := ns' }, g ∈ XY X Y ∨ w.heap.size ≤ g := by
 have hin : ∀ g ∈ Y.mm :: skF Y.L Y.ns, g ∈ Y.foot := fun g hg => Yw.mem_foot.2 (by
  rcases List.mem_cons.1 hg with rfl | hg
  ·exact .inr (.inr (.inr (.inl rfl)))
  ·exact .inr (.inr (.inr (.inr hg))))
 have hc2 : Chg (XY X Y) w w1 := c.mono fun g hg => .inl (List.mem_append_right _ (hin g hg))
 have hmf : ∀ g ∈ Y.mm :: skF Y.L ns', g ∈ Y.mm :: skF Y.L Y.ns ∨ w.heap.size ≤ g := fun g hg => by
  rcases List.mem_cons.1 hg with rfl | hg
  ·exact .inl List.mem_cons_self
  ·exact (hf g hg).imp (List.mem_cons_of_mem _) id
 have hf1 : ∀ g ∈ ({ Y with ns := ns' } : Yw).foot, g ∈ Y.foot ∨ w.heap.size ≤ g := fun g hg => by
  rcases Yw.mem_foot.1 hg with q | q | q | q | q
  ·exact .inl (Yw.mem_foot.2 (.inl q))
  ·exact .inl (Yw.mem_foot.2 (.inr (.inl q)))
  ·exact .inl (Yw.mem_foot.2 (.inr (.inr (.inl q))))
  ·exact .inl (Yw.mem_foot.2 (.inr (.inr (.inr (.inl q)))))
  ·rcases hf g q with q | q
   ·exact .inl (Yw.mem_foot.2 (.inr (.inr (.inr (.inr q)))))
   ·exact .inr q
 have hf2 : ∀ g ∈ XY X { Y with ns := ns' }, g ∈ XY X Y ∨ w.heap.size ≤ g := fun g hg => by
  rcases List.mem_append.1 hg with q | q
  ·exact .inl (List.mem_append_left _ q)
  ·exact (hf1 g q).imp (List.mem_append_right _) id
 have aps := h.apart.s
 have apm := h.apart.m
 have apg := h.apart.g
 have hs : Y.s ∉ Y.mm :: skF Y.L Y.ns := fun hm => aps (List.mem_cons_of_mem _ (List.mem_cons_of_mem _ hm))
 have hmm : Y.m ∉ Y.mm :: skF Y.L Y.ns := fun hm => apm (List.mem_cons_of_mem _ hm)
 have old : ∀ x, x ∉ Y.mm :: skF Y.L Y.ns → x < w.heap.size → x ∉ Y.mm :: skF Y.L ns' := fun x h1 h2 h3 => by
  rcases hmf x h3 with q | q
  ·exact h1 q
  ·omega
 have l1 := h.box.lt
 have l2 := h.man.lt
 have l3 := h.log.lt
 refine ⟨⟨h.dm.chg c (fun g hg => ⟨h.apart.x g (hin g hg), h.ng g (hin g hg)⟩), h.box.chg c hs, h.man.chg c hmm, ?_, ?_, h.log.chg c apg, hm, rfl, h.tabs.step hc2 hf2, h.st.step hc2 hf2, ⟨fun g hg hx => ?_, ?_, ?_, old _ apg l3⟩, fun g hg => ?_⟩, hc2, hf2⟩
 ·exact ⟨(row_chg c h.row.row (Nat.le_refl _) (fun j hj a ha hx => h.pout j hj a ha (hin _ hx))).up c.size, h.row.nc, h.row.cm, h.row.nb, h.row.away⟩
 ·intro j hj a ha hx
  rcases hf1 _ hx with q | q
  ·exact h.pout j hj a ha q
  ·obtain ⟨b, e, q1, _⟩ := h.row.row.cell j hj
   rw [ha] at e
   injection e with e
   subst e
   omega
 ·rcases hf1 g hg with q | q
  ·exact h.apart.x g q hx
  ·have := h.dm.dk.lt g hx
   omega
 ·intro hx
  rcases List.mem_cons.1 hx with q | q
  ·exact aps (by rw [q]; exact List.mem_cons_self)
  ·rcases List.mem_cons.1 q with q | q
   ·exact aps (by rw [q]; exact List.mem_cons_of_mem _ List.mem_cons_self)
   ·exact old _ hs l1 q
 ·intro hx
  rcases List.mem_cons.1 hx with q | q
  ·exact apm (by rw [q]; exact List.mem_cons_self)
  ·exact old _ hmm l2 q
 ·rcases hf1 g hg with q | q
  ·exact h.ng g q
  ·have := h.dm.env.base
   omega
def NewA (w : World) (Y Y1 : Yw) : Prop := Y1.A = Y.A ∨ ∀ a, Y1.A.a = some a → w.heap.size ≤ a.block
theorem NewA.trans (h : NewA w Y Y1) (k : NewA w1 Y1 Y2) (hs : w.heap.size ≤ w1.heap.size) : NewA w Y Y2 := by
 rcases k with k | k
 ·rcases h with h | h
  ·exact .inl (k.trans h)
  ·exact .inr (by rw [k]; exact h)
 ·exact .inr fun a ha => Nat.le_trans hs (k a ha)
def SvUpdA (X : Dw) (Y : Yw) (w w1 : World) (S1 : Sd) (V1 : Sv) : Prop := ∃ X1 Y1, X1.d = X.d ∧ Y1.s = Y.s ∧ SvAt w1 X1 S1 Y1 V1 ∧ Chg (XY X Y) w w1 ∧ (∀ g ∈ XY X1 Y1, g ∈ XY X Y ∨ w.heap.size ≤ g) ∧ NewA w Y Y1
def SvPostA (X : Dw) (Y : Yw) (w : World) (R : Sd × Sv × Nat) (e : Ending) (w1 : World) : Prop := e = .returned (.int .i64 (R.2.2 : Int)) ∧ SvUpdA X Y w w1 R.1 R.2.1
theorem SvUpdA.refl (h : SvAt w X S Y V) : SvUpdA X Y w w S V := ⟨X, Y, rfl, rfl, h, Chg.refl _ _, fun _ hg => .inl hg, .inl rfl⟩
theorem SvUpdA.same (h : SvAt w X S Y V) (hb : Below w.heap.size w w1) : SvUpdA X Y w w1 S V := ⟨X, Y, rfl, rfl, h.below hb, Chg.of_below hb _, fun _ hg => .inl hg, .inl rfl⟩
theorem SvUpdA.c (h : SvUpdA X Y w w1 S V) : Chg (XY X Y) w w1 := let ⟨_, _, _, _, _, c, _⟩ := h; c
theorem SvUpdA.up (h : SvUpdA X Y w w1 S V) : SvUpd X Y w w1 S V := let ⟨X1, Y1, a, b, c, d, e, _⟩ := h; ⟨X1, Y1, a, b, c, d, e⟩
theorem sapplyA_any (h : SvAt w X S Y V) (A : Option Addr) (n c : Nat) (l : List It) (hn : n ≤ 100000) (hr : Row w.heap.size w A n 5 (itc l)) (hA : ∀ a, A = some a → a.block ∉ XY X Y) (hfit : ∀ x ∈ l, x.fit) (hst : Stt V.st) (hsl : V.st.length ≤ 2000) (hsz : V.sz ≤ 1000000000000) (hct : V.ct ≤ 1000000000) (hml : V.mem.length ≤ 400000) (hnm : V.nm.length ≤ 1000) :
  Calls Tryz.prog 9 #[.pointer (some ⟨Y.s, 0, none⟩), .slice A n c] w (SvPostA X Y w (St.apply S V l)) := by
 have hll := hr.itlen
 obtain ⟨R, hR⟩ : ∃ R, R = St.apply S V l := ⟨_, rfl⟩
 have hR0 := hR
 unfold St.apply at hR
 rw [← hR0]
 clear hR0
 have hxlt := h.lt
 have c10 := h.box.cell 10
 have c5 := h.box.cell 5
 simp only [Yw.cells, gE0, gE1] at c10 c5
 have hal := iall_any A n c l w (by omega) hr
 obtain ⟨ab, hab⟩ : ∃ ab, ab = l.all It.ok := ⟨_, rfl⟩
 have HH := Lib.hid h
 have HLL := Lib.hid hll
 have HX := Lib.hid hxlt
 have HROW := Lib.hid hr
 cases ho : V.only with
 | true =>
  rw [if_pos ho] at hR
  rw [ho] at c10
  have HZ : Hid (SvPostA X Y w R (.returned (.int .i64 14)) w) := Lib.hid (by rw [hR]; exact ⟨rfl, SvUpdA.refl h⟩)
  clear hR ho h hr hxlt hal hab hll
  go_enter Tryz.func9, Tryz.ntmps9
  go_wp2
  go_ret
  exact HZ.out
 | false =>
 rw [if_neg (by simp [ho])] at hR
 rw [ho] at c10
 by_cases h0 : n = 0
 ·have hl0 : l = [] := List.length_eq_zero_iff.1 (by omega)
  rw [if_pos (.inl hl0)] at hR
  have HZ : Hid (SvPostA X Y w R (.returned (.int .i64 1)) w) := Lib.hid (by rw [hR]; exact ⟨rfl, SvUpdA.refl h⟩)
  subst h0
  clear hR ho h hr hxlt hal hab hll hl0
  go_enter Tryz.func9, Tryz.ntmps9
  go_wp2
  go_ret
  exact HZ.out
 have e0 : ((n : Int) == 0) = false := by simp; omega
 have hl0 : l ≠ [] := fun e => by rw [e] at hll; simp at hll; omega
 rw [← hab] at hal
 have HAL := Lib.hid hal
 cases ab with
 | false =>
  rw [if_pos (.inr hab.symm)] at hR
  have HZ : Hid (∀ w', Below w.heap.size w w' → SvPostA X Y w R (.returned (.int .i64 1)) w') := Lib.hid (fun w' hb => by rw [hR]; exact ⟨rfl, SvUpdA.same h hb⟩)
  clear hR ho h hr hxlt hal hab hll hl0
  go_enter Tryz.func9, Tryz.ntmps9
  go_wp2_with fail
  with_reducible refine HAL.out.mono ?_
  rintro e w2 ⟨rfl, hb2⟩
  have HY := Lib.hid (HZ.out _ hb2)
  clear hb2 HZ
  go_wp2
  go_ret
  exact HY.out
 | true =>
 rw [if_neg (by intro q; rcases q with q | q; exact hl0 q; rw [← hab] at q; cases q)] at hR
 by_cases h1 : 1000 < n
 ·rw [if_pos (by omega)] at hR
  have HZ : Hid (∀ w', Below w.heap.size w w' → SvPostA X Y w R (.returned (.int .i64 2)) w') := Lib.hid (fun w' hb => by rw [hR]; exact ⟨rfl, SvUpdA.same h hb⟩)
  have e1 : ((1000 : Int) < (n : Int)) = True := eq_true (by omega)
  clear hR ho h hr hxlt hal hab hll hl0
  go_enter Tryz.func9, Tryz.ntmps9
  go_wp2_with fail
  with_reducible refine HAL.out.mono ?_
  rintro e w2 ⟨rfl, hb2⟩
  have HY := Lib.hid (HZ.out _ hb2)
  clear hb2 HZ
  go_wp2
  go_ret
  exact HY.out
 rw [if_neg (by omega)] at hR
 have e1 : ((1000 : Int) < (n : Int)) = False := eq_false (by omega)
 have hit := h.st.now
 have hjn := fun (W : World) (hb : Below w.heap.size w W) => join_any Y.A.a Y.A.n Y.A.c V.st A n c l W (by have := h.alen; omega) hit.nc hit.cm hst ((hit.row.below hb).up hb.size) ((hr.below hb).up hb.size)
 have c5w : ∀ W, Below w.heap.size w W → W.cell? ⟨Y.s, 5, none⟩ = some (.slice Y.A.a Y.A.n Y.A.c) := fun W hb => (hb.cell (p := ⟨Y.s, 5, none⟩) h.box.lt).trans c5
 obtain ⟨J, hJ⟩ : ∃ J, J = joins V.st l := ⟨_, rfl⟩
 rw [← hJ] at hR hjn
 have HJN := Lib.hid hjn
 have HC5 := Lib.hid c5w
 have HR := Lib.hid hR
 have HJ := Lib.hid hJ
 have HAB := Lib.hid hab
 have HFS := Lib.hid h.ylt
 clear hR ho h hr hxlt hal hab hll hl0 hit hjn c5w hJ c5
 go_enter Tryz.func9, Tryz.ntmps9
 go_wp2_with fail
 with_reducible refine HAL.out.mono ?_
 rintro e w2 ⟨rfl, hb2⟩
 have c5 := HC5.out w2 hb2
 go_wp2_with fail
 with_reducible refine (HJN.out w2 hb2).mono ?_
 rintro e w3 ⟨A3, k3, rfl, hk3, hi3, hb3⟩
 have hs3 := (HH.out.below hb2).below hb3
 have hb23 := later_ hb2 hb3
 have hfx3 : Fixed (XY X Y) w3 fun W => Its 0 W A3 k3 k3 J := fun W cW => ⟨(row_chg cW hi3.row (Nat.le_refl _) (fun j _ a ha hm => by
  have := hi3.low a ha
  have := HX.out _ hm
  have := hb2.size
  omega)).up cW.size, hi3.nc, hi3.cm, fun _ _ => Nat.zero_le _⟩
 have HLA : Hid (∀ a, A3 = some a → w.heap.size ≤ a.block) := Lib.hid fun a ha => Nat.le_trans hb2.size (hi3.low a ha)
 have HK3 := Lib.hid hk3
 have HS3 := Lib.hid hs3
 have HF3 := Lib.hid hfx3
 have HB := Lib.hid hb23
 clear hk3 hs3 hfx3 hi3 hb3 hb2 hb23 c5 HJN HAL HC5
 have hR := HR.out
 by_cases h2 : 1500 < k3
 ·rw [if_pos (by rw [← HK3.out]; exact h2)] at hR
  have e2 : ((1500 : Int) < (k3 : Int)) = True := eq_true (by omega)
  have HZ : Hid (SvPostA X Y w R (.returned (.int .i64 2)) w3) := Lib.hid (by rw [hR]; exact ⟨rfl, SvUpdA.same HH.out HB.out⟩)
  clear hR h2
  go_wp2
  go_ret
  exact HZ.out
 rw [if_neg (by rw [← HK3.out]; exact h2)] at hR
 have e2 : ((1500 : Int) < (k3 : Int)) = False := eq_false (by omega)
 have c2 := HS3.out.box.cell 2
 simp only [Yw.cells, gE0, gE1] at c2
 have hlp := lput_any X S Y.g V.nm V.sz V.ct A n c l w3 hnm HS3.out.dm HS3.out.log (HS3.out.apart.x _ (Yw.mem_foot.2 (.inr (.inr (.inl rfl))))) (HS3.out.ng _ (Yw.mem_foot.2 (.inr (.inr (.inl rfl))))) hsz hct (by omega) (by omega) ((HROW.out.below HB.out).up HB.out.size) (fun x hx => ⟨by have := HAB.out; rw [eq_comm, List.all_eq_true] at this; exact this x hx, hfit x hx⟩)
 obtain ⟨a, ha⟩ : ∃ a, a = S.append V.nm (Lg.batch l) := ⟨_, rfl⟩
 rw [← ha] at hlp hR
 obtain ⟨S4, er4⟩ := a
 unfold LpPost at hlp
 simp only at hlp hR
 have HLP := Lib.hid hlp
 have HR2 := Lib.hid hR
 clear hlp hR ha h2 HR
 go_wp2_with fail
 with_reducible refine HLP.out.mono ?_
 rintro e w4 ⟨rfl, X4, e4, hd4, hc4, hf4, hl4⟩
 by_cases h4 : er4 = 0
 ·subst h4
  rw [if_pos rfl] at hl4
  obtain ⟨hs4, hc4x, hf4x⟩ := HS3.out.put e4 hd4 hc4 hf4 hl4
  have c3 := hs4.box.cell 3
  simp only [Yw.cells, gE0, gE1] at c3
  have hr4 := (row_chg hc4x ((HROW.out.below HB.out).up HB.out.size) (Nat.le_refl _) (fun j _ a ha => hA a ha)).up hc4x.size
  have hin : ∀ g ∈ Y.mm :: skF Y.L Y.ns, g ∈ Y.foot := fun g hg => Yw.mem_foot.2 (by
   rcases List.mem_cons.1 hg with rfl | hg
   ·exact .inr (.inr (.inr (.inl rfl)))
   ·exact .inr (.inr (.inr (.inr hg))))
  have hma := mmapply_any hs4.mem A n c l (by omega) (by rw [hs4.its]; exact hml) hr4 (fun a ha => ⟨fun hm => hA a ha (List.mem_append_right _ (hin _ (by rw [hm]; exact List.mem_cons_self))), fun hm => hA a ha (List.mem_append_right _ (hin _ (List.mem_cons_of_mem _ hm)))⟩) HAB.out.symm
  have HS4 := Lib.hid hs4
  have HMA := Lib.hid hma
  have HC4 := Lib.hid (And.intro hc4x hf4x)
  have HE4 := Lib.hid e4
  clear hs4 hma hr4 hc4x hf4x hc4 hf4 hd4 hl4 e4 hin HLP
  go_wp2_with fail
  with_reducible refine HMA.out.mono ?_
  rintro e w5 ⟨ns', rfl, hm5, hi5, hc5, hf5⟩
  obtain ⟨hs5, hc5x, hf5x⟩ := HS4.out.mput hm5 hc5 hf5
  have hfx5 := (HF3.out.step HC4.out.1 HC4.out.2).step hc5x hf5x
  have hset := sset_any hs5 A3 k3 k3 J hfx5
  have hc := (((Chg.of_below HB.out (XY X Y)).trans HC4.out.1 (fun g hg => .inl hg)).trans hc5x (fun g hg => (HC4.out.2 g hg).imp id (Nat.le_trans HB.out.size)))
  have hfz : ∀ g ∈ XY X4 { Y with ns := ns' }, g ∈ XY X Y ∨ w.heap.size ≤ g := fun g hg => by
   rcases hf5x g hg with q | q
   ·exact (HC4.out.2 g q).imp id (Nat.le_trans HB.out.size)
   ·exact .inr (Nat.le_trans (Nat.le_trans HB.out.size HC4.out.1.size) q)
  have HSET := Lib.hid hset
  have HC := Lib.hid hc
  have HFZ := Lib.hid hfz
  have HI5 := Lib.hid (show its ns' = l.foldl wput V.mem by rw [hi5, HS4.out.its])
  clear hs5 hfx5 hset hc hfz hm5 hi5 hc5 hf5 hc5x hf5x HMA c3 c2
  go_wp2_with fail
  with_reducible refine HSET.out.mono ?_
  rintro e w6 ⟨rfl, hs6, hc6⟩
  have hz : SvPostA X Y w R (.returned (.int .i64 0)) w6 := by
   rw [HR2.out, if_neg (by simp)]
   refine ⟨rfl, X4, { Y with ns := ns', A := ⟨A3, k3, k3⟩ }, HE4.out, rfl, ?_, HC.out.trans hc6 HFZ.out, HFZ.out, .inr HLA.out⟩
   rw [← HI5.out]
   exact hs6
  have HZ := Lib.hid hz
  clear hz hs6 hc6 HSET
  go_wp2
  go_ret
  exact HZ.out
 ·have e3 : ((er4 : Int) == 0) = false := by simp; omega
  rw [if_neg h4] at hl4
  obtain ⟨hs4, hc4x, hf4x⟩ := HS3.out.put e4 hd4 hc4 hf4 hl4
  have hz : SvPostA X Y w R (.returned (.int .i64 (er4 : Int))) w4 := by
   rw [HR2.out, if_pos h4]
   exact ⟨rfl, X4, Y, e4, rfl, hs4, (Chg.of_below HB.out (XY X Y)).trans hc4x (fun g hg => .inl hg), fun g hg => (hf4x g hg).imp id (Nat.le_trans HB.out.size), .inl rfl⟩
  have HZ := Lib.hid hz
  clear hz hs4 hc4x hf4x hc4 hf4 hd4 hl4 e4 HLP h4
  go_wp2
  go_ret
  exact HZ.out
end
section
open Go Go.RowKit Go.Lib Go.Shelf
variable {w w1 w2 : World} {X X1 X2 : Dw} {S S1 S2 : Sd} {Y Y1 Y2 : Yw} {V V1 V2 : Sv}
structure Mt where
 floor : Nat
 cert : Nat
 at_ : Nat
 lease : Nat
def Mt.val (m : Mt) : Value := .agg #[.int .u64 (m.floor : Int), .int .u64 (m.cert : Int), .int .u64 (m.at_ : Int), .int .u64 (m.lease : Int)]
def Mt.cells (m : Mt) : List Value := [.int .u64 (m.floor : Int), .int .u64 (m.cert : Int), .int .u64 (m.at_ : Int), .int .u64 (m.lease : Int)]
namespace St
def meta_ (V : Sv) : Mt := ⟨V.M.v.floor, V.M.v.cert, V.M.v.at_, V.M.v.lease⟩
def sync (S : Sd) (V : Sv) : Sd × Sv × Nat :=
 if V.only = true then (S, V, 14) else
 if (S.sync V.nm).2 = 0 then ((S.sync V.nm).1, V, 0) else ((S.sync V.nm).1, { V with only := true }, (S.sync V.nm).2)
end St
theorem smeta_any (h : SvAt w X S Y V) (hn : V.M.v.files.length ≤ 10000) :
  Calls Tryz.prog 39 #[.pointer (some ⟨Y.s, 0, none⟩)] w fun e w' => e = .returned (St.meta_ V).val ∧ Below w.heap.size w w' := by
 have hb1 := (Below.refl w.heap.size w).alloc (Nat.le_refl _) (.cells #[.int .u64 0, .int .u64 0, .int .u64 0, .int .u64 0] 32)
 have hbx := BoxO.new w #[.int .u64 0, .int .u64 0, .int .u64 0, .int .u64 0] 32
 have h1 := h.below hb1
 have k1 := h1.box.cell 1
 simp only [Yw.cells, gE0, gE1] at k1
 have hv := gmview_any X.d h1.man h1.row.row (by rw [h1.plen]; exact hn)
 obtain ⟨v, hv0⟩ : ∃ v, v = V.M.v := ⟨_, rfl⟩
 unfold St.meta_ Mt.val
 rw [← hv0] at hv ⊢
 unfold Vw.val at hv
 have HV := Lib.hid hv
 have HB := Lib.hid (And.intro hb1 hbx)
 clear hv hv0 h h1 hb1 hbx
 go_enter Tryz.func39, Tryz.ntmps39
 go_wp2_with fail
 refine HV.out.mono ?_
 rintro e w2 ⟨A, c, rfl, _, hb2⟩
 have hbz := later_ HB.out.1 hb2
 have hx2 := HB.out.2.below hb2
 have hb3 := (Below.refl w2.heap.size w2).alloc (Nat.le_refl _) (.cells #[.int .i64 v.log, .slice A Y.P.n c, .int .u64 (v.floor : Int), .int .u64 (v.cert : Int), .int .u64 (v.at_ : Int), .int .u64 (v.lease : Int)] 134)
 have hbq := later_ hbz hb3
 have hx3 := hx2.below hb3
 have f0 := hx3.free 0
 have f1 := hx3.free 1
 have f2 := hx3.free 2
 have f3 := hx3.free 3
 have s0 := hx3.cell 0
 have s1 := hx3.cell 1
 have s2 := hx3.cell 2
 have s3 := hx3.cell 3
 simp only [gE0, gE1] at s0 s1 s2 s3
 have HQ := Lib.hid hbq
 clear HV HB hbz hx2 hb3 hbq hx3 hb2
 go_wp2
 refine bodyPost_ret (v := .agg #[.int .u64 (v.floor : Int), .int .u64 (v.cert : Int), .int .u64 (v.at_ : Int), .int .u64 (v.lease : Int)]) (by simp [results, go_sem, *]) rfl ⟨rfl, ?_⟩
 exact (((HQ.out.setCell (p := ⟨w.heap.size, 0, none⟩) (Nat.le_refl _) _).setCell (p := ⟨w.heap.size, 1, none⟩) (Nat.le_refl _) _).setCell (p := ⟨w.heap.size, 2, none⟩) (Nat.le_refl _) _).setCell (p := ⟨w.heap.size, 3, none⟩) (Nat.le_refl _) _
theorem sseriesS_any (h : SvAt w X S Y V) (hn : V.st.length ≤ 1000000) (s : Int) :
  Calls Tryz.prog 45 #[.pointer (some ⟨Y.s, 0, none⟩), .int .i64 s] w (JoinPost w (V.st.filter fun a => a.s == s)) := by
 have c5 := h.box.cell 5
 simp only [Yw.cells, gE0, gE1] at c5
 have HS := Lib.hid (sseries_any Y.A.a Y.A.n Y.A.c V.st s w (by rw [h.alen]; omega) h.st.now.row)
 clear h
 go_enter Tryz.func45, Tryz.ntmps45
 go_wp2_with fail
 refine HS.out.mono ?_
 rintro e w1 ⟨A', k, rfl, h1⟩
 have H1 := Lib.hid h1
 clear h1
 go_wp2
 go_ret
 exact ⟨A', k, rfl, H1.out⟩
theorem ssync_any (h : SvAt w X S Y V) (hnm : V.nm.length ≤ 1000) :
  Calls Tryz.prog 107 #[.pointer (some ⟨Y.s, 0, none⟩)] w (SvPostA X Y w (St.sync S V)) := by
 obtain ⟨R, hR⟩ : ∃ R, R = St.sync S V := ⟨_, rfl⟩
 have hR0 := hR
 unfold St.sync at hR
 rw [← hR0]
 clear hR0
 have c10 := h.box.cell 10
 have c2 := h.box.cell 2
 simp only [Yw.cells, gE0, gE1] at c10 c2
 have HH := Lib.hid h
 cases ho : V.only with
 | true =>
  rw [if_pos ho] at hR
  rw [ho] at c10
  have HZ : Hid (SvPostA X Y w R (.returned (.int .i64 14)) w) := Lib.hid (by rw [hR]; exact ⟨rfl, SvUpdA.refl h⟩)
  clear hR ho h
  go_enter Tryz.func107, Tryz.ntmps107
  go_wp2
  go_ret
  exact HZ.out
 | false =>
 rw [if_neg (by simp [ho])] at hR
 rw [ho] at c10
 have hls := lsync_any X S Y.g V.nm V.sz V.ct w hnm h.dm h.log (h.apart.x _ (Yw.mem_foot.2 (.inr (.inr (.inl rfl)))))
 obtain ⟨r, hr⟩ : ∃ r, r = S.sync V.nm := ⟨_, rfl⟩
 rw [← hr] at hls hR
 obtain ⟨S1, er⟩ := r
 simp only at hls hR
 have HLS := Lib.hid hls
 have HR := Lib.hid hR
 clear hls hR hr h
 go_enter Tryz.func107, Tryz.ntmps107
 go_wp2_with fail
 refine HLS.out.mono ?_
 rintro e w1 ⟨rfl, hu⟩
 obtain ⟨X1, e1, hs1, hc1, hf1⟩ := HH.out.disk hu
 by_cases h0 : er = 0
 ·subst h0
  have HZ : Hid (SvPostA X Y w R (.returned (.int .i64 0)) w1) := Lib.hid (by
   have := HR.out
   rw [if_pos rfl] at this
   rw [this]
   exact ⟨rfl, X1, Y, e1, rfl, hs1, hc1, hf1, .inl rfl⟩)
  clear hs1 hc1 hf1 hu e1
  go_wp2
  go_ret
  exact HZ.out
 ·have e3 : ((er : Int) == 0) = false := by simp; omega
  have hcl := sclose_any hs1 er
  have HCL := Lib.hid hcl
  have HU := Lib.hid (And.intro e1 (And.intro hc1 hf1))
  clear hcl hs1 hc1 hf1 hu e1
  go_wp2_with fail
  refine HCL.out.mono ?_
  rintro e w2 ⟨rfl, hs2, hc2⟩
  have HZ : Hid (SvPostA X Y w R (.returned (.int .i64 (er : Int))) w2) := Lib.hid (by
   have := HR.out
   rw [if_neg h0] at this
   rw [this]
   exact ⟨rfl, X1, Y, HU.out.1, rfl, hs2, HU.out.2.1.trans hc2 HU.out.2.2, HU.out.2.2, .inl rfl⟩)
  clear hs2 hc2
  go_wp2
  go_ret
  exact HZ.out
end
end Go.Proofs.YtdkjoigpahafmaaGreatDoor
