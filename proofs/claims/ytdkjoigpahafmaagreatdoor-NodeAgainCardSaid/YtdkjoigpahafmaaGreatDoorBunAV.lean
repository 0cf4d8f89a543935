/- Texts PlainTwo, RefMsg, LawNA0, LawNA1 in one. No conditions. -/
import Derived.Test.YtdkjoigpahafmaaGreatDoorBunAR
import Derived.Test.YtdkjoigpahafmaaGreatDoorBunAU
import Derived.Test.YtdkjoigpahafmaaGreatDoorBunAS
import Derived.Test.YtdkjoigpahafmaaGreatDoorBunAA
import Derived.Test.YtdkjoigpahafmaaGreatDoorBunAI
import Derived.Test.YtdkjoigpahafmaaGreatDoorBunAQ

set_option linter.unusedSimpArgs false
set_option linter.unusedVariables false
set_option maxRecDepth 100000
set_option maxHeartbeats 16000000
namespace Go.Proofs.YtdkjoigpahafmaaGreatDoor
section
open Go
namespace Nd
variable {q : Int} {S : Sd} {V : Sv} {c d : Nat}
theorem app_four {v : Vw} (hv : v.ok = true) {m : Mt} (hm : St.may1 m.floor v.floor ∧ St.may1 m.cert v.cert ∧ St.may1 m.at_ v.at_ ∧ St.may1 m.lease v.lease) : v.app ⟨[], [], 0, m.floor, m.cert, m.at_, m.lease⟩ = some { v with floor := m.floor, cert := m.cert, at_ := m.at_, lease := m.lease } := by
 obtain ⟨⟨m1, n1⟩, ⟨m2, n2⟩, ⟨m3, n5⟩, ⟨m4, n6⟩⟩ := hm
 have ho : ({ v with floor := m.floor, cert := m.cert, at_ := m.at_, lease := m.lease } : Vw).ok = true := by
  simp only [Vw.ok, four4, Bool.and_eq_true, decide_eq_true_eq] at hv ⊢
  refine ⟨⟨⟨hv.1.1.1, ?_⟩, hv.1.2⟩, hv.2⟩
  omega
 have hz : ∀ a b : Nat, (a = 0 → b = 0) → orElse a b = a := fun a b h => by
  unfold orElse
  split
  ·rename_i e
   rw [h e, e]
  ·rfl
 unfold Vw.app dropAll
 simp only [hz _ _ n1, hz _ _ n2, hz _ _ n5, hz _ _ n6, if_true, List.append_nil]
 rw [if_pos ho]
theorem NS.setm (h : NS q S V c d) (hq : 500000 ≤ q) (hd : d + 2012 ≤ 70000) {m : Mt} (hm : St.mayMeta m (St.meta_ V)) :
  ∃ S' V', St.setMeta S V m = (S', V', 0) ∧ NS q S' V' c (d + 2012) ∧ V'.st = V.st ∧ V'.M.v = { V.M.v with floor := m.floor, cert := m.cert, at_ := m.at_, lease := m.lease } := by
 obtain ⟨⟨m1, n1⟩, ⟨m2, n2⟩, ⟨m3, n5⟩, ⟨m4, n6⟩⟩ := hm
 have he : (⟨[], [], 0, m.floor, m.cert, m.at_, m.lease⟩ : Ed).may = true := by
  simp [Ed.may, four4]
  omega
 have hr := Ed.rec_len he
 obtain ⟨t, ht, hc0⟩ := h.log
 obtain ⟨t2, ht2, hd0⟩ := h.man
 obtain ⟨ln, lu⟩ := h.calm.length_names h.small
 have n3 : St.kLog1 ≠ Mw.man 1 := by decide +kernel
 have hnm : Sd.named (Mw.man 1) = true := by decide +kernel
 obtain ⟨a1, a2, a3, a4⟩ := h.calm.append (s := Mw.man 1) hnm ht2 (Ed.rec_ ⟨[], [], 0, m.floor, m.cert, m.at_, m.lease⟩) (by omega) (by have := h.quota; simp at lu; omega)
 obtain ⟨b1, b2, b3, b4⟩ := a2.sync (s := Mw.man 1) hnm (x := t2 ++ Ed.rec_ ⟨[], [], 0, m.floor, m.cert, m.at_, m.lease⟩) (by rw [a3, upd, if_pos rfl])
 have hsv : Gw.save S V.M ⟨[], [], 0, m.floor, m.cert, m.at_, m.lease⟩ = (((S.append (Mw.man 1) (Ed.rec_ ⟨[], [], 0, m.floor, m.cert, m.at_, m.lease⟩)).1.sync (Mw.man 1)).1, { V.M with count := V.M.count + 1, v := { V.M.v with floor := m.floor, cert := m.cert, at_ := m.at_, lease := m.lease } }, 0) := by
  unfold Gw.save
  rw [if_neg (by rw [h.br]; simp), if_neg (by rw [he]; simp), app_four h.ok ⟨⟨m1, n1⟩, ⟨m2, n2⟩, ⟨m3, n5⟩, ⟨m4, n6⟩⟩]
  simp only
  unfold Gw.put
  rw [h.name, if_neg (by simp [a1]), if_neg (by simp [b1])]
 have ho : ({ V.M.v with floor := m.floor, cert := m.cert, at_ := m.at_, lease := m.lease } : Vw).ok = true := by
  have hv := h.ok
  simp only [Vw.ok, four4, Bool.and_eq_true, decide_eq_true_eq] at hv ⊢
  refine ⟨⟨⟨hv.1.1.1, ?_⟩, hv.1.2⟩, hv.2⟩
  omega
 refine ⟨((S.append (Mw.man 1) (Ed.rec_ ⟨[], [], 0, m.floor, m.cert, m.at_, m.lease⟩)).1.sync (Mw.man 1)).1, { V with M := { V.M with count := V.M.count + 1, v := { V.M.v with floor := m.floor, cert := m.cert, at_ := m.at_, lease := m.lease } } }, ?_, ⟨b2, by rw [b4, a4, h.quota], h.only, h.nm, ⟨t, ?_, hc0⟩, ⟨t2 ++ Ed.rec_ ⟨[], [], 0, m.floor, m.cert, m.at_, m.lease⟩, ?_, ?_⟩, ⟨fun s x hx => ?_, fun s x hx => ?_⟩, h.sz, h.ct, h.mem, h.tabs, h.st, h.name, h.br, ho, h.files, ?_⟩, rfl, rfl⟩
 ·unfold St.setMeta St.saved
  rw [if_neg (by rw [h.only]; simp)]
  simp only
  rw [hsv]
  simp only [h.br, h.only, Bool.or_false]
 ·rw [b3, a3, upd, if_neg n3]
  exact ht
 ·rw [b3, a3, upd, if_pos rfl]
 ·rw [List.length_append]
  omega
 ·rw [b3, a3, upd] at hx
  split at hx
  ·subst_vars; simp
  ·exact h.small.names s x hx
 ·rw [b3, a3, upd] at hx
  split at hx
  ·injection hx with hx
   rw [← hx, List.length_append]
   omega
  ·exact h.small.len s x hx
 ·have := h.count
  simp only
  omega
theorem NS.lastA (h : NS q S V c d) (hq : 500000 ≤ q) (hc : c + 2000 ≤ 70000) {l : List It} (ha : l.all It.ok = true) (hl : l.length ≤ 60) (hs : V.st.length ≤ 1500) :
  ∃ S' V' b, St.last S V l = (S', V', b) ∧ NS q S' V' (c + 1942) d ∧ V'.M = V.M ∧ V'.st.length ≤ 1500 ∧ ((b = true ∧ V'.st = joins V.st l) ∨ (b = false ∧ V' = V ∧ joins V.st l ≠ V.st ∧ 1500 < (joins V.st l).length)) := by
 by_cases hj : (joins V.st l).length ≤ 1500
 ·obtain ⟨S', V', h1, h2, h3, h4⟩ := h.last hq hc ha hl hj
  exact ⟨S', V', true, h1, h2.mono (by omega) (Nat.le_refl _), h4, by rw [h3]; exact hj, .inl ⟨rfl, h3⟩⟩
 ·have hne : joins V.st l ≠ V.st := fun e => hj (by rw [e]; exact hs)
  have h0 : l ≠ [] := fun e => hne (by rw [e]; rfl)
  have hap : St.apply S V l = (S, V, 2) := by
   unfold St.apply
   rw [if_neg (by rw [h.only]; simp), if_neg (by simp [h0, ha]), if_neg (by omega), if_pos (by omega)]
  refine ⟨S, V, false, ?_, h.mono (by omega) (Nat.le_refl _), rfl, hs, .inr ⟨rfl, rfl, hne, by omega⟩⟩
  unfold St.last
  rw [if_neg hne, hap]
  rfl
theorem NS.lastB (h : NS q S V c d) (hq : 500000 ≤ q) (hc : c + 2000 ≤ 70000) {l : List It} (ha : l.all It.ok = true) (hl : l.length ≤ 60) (hs : V.st.length ≤ 1500) :
  ∃ S' V' b S'', St.last S V l = (S', V', b) ∧ NS q S' V' (c + 1942) d ∧ V'.M = V.M ∧ V'.st.length ≤ 1500 ∧ St.last S' V' l = (S'', V', b) ∧ NS q S'' V' (c + 1942) d := by
 obtain ⟨S', V', b, h1, h2, h3, h4, h5⟩ := h.lastA hq hc ha hl hs
 rcases h5 with ⟨e1, e2⟩ | ⟨e1, e2, e3, e4⟩
 ·subst e1
  obtain ⟨S'', g1, g2⟩ := h2.sync
  refine ⟨S', V', true, S'', h1, h2, h3, h4, ?_, g2⟩
  unfold St.last
  rw [if_pos (by rw [e2]; exact joins_twice h.st), g1]
  rfl
 ·subst e1 e2
  have h0 : l ≠ [] := fun e => e3 (by rw [e]; rfl)
  have hap : St.apply S' V' l = (S', V', 2) := by
   unfold St.apply
   rw [if_neg (by rw [h.only]; simp), if_neg (by simp [h0, ha]), if_neg (by omega), if_pos (by omega)]
  refine ⟨S', V', false, S', h1, h2, h3, h4, ?_, h2⟩
  unfold St.last
  rw [if_neg e3, hap]
  rfl
theorem upto_ok {l : List It} (ha : l.all It.ok = true) (f : Nat) : (upto l f).all It.ok = true := by
 rw [List.all_eq_true] at ha ⊢
 exact fun x hx => ha x (by unfold upto at hx; exact (List.mem_filter.1 hx).1)
theorem upto_len (l : List It) (f : Nat) : (upto l f).length ≤ l.length := List.length_filter_le _ _
structure Few (q : Int) (S : Sd) (V : Sv) (c d : Nat) : Prop where
 ns : NS q S V c d
 len : V.st.length ≤ 1500
 at_ : V.M.v.at_ = 0
theorem Few.mono {c' d' : Nat} (h : Few q S V c d) (hc : c ≤ c') (hd : d ≤ d') : Few q S V c' d' := ⟨h.ns.mono hc hd, h.len, h.at_⟩
theorem fill_same {S S1 : Sd} {V V1 : Sv} (f : Nat) (l : List It) (e : V1.M.v = V.M.v) (hf : (St.meta_ V).fills f = false) : St.fill S V f l = (S, V, decide (f = V.M.v.cert)) ∧ St.fill S1 V1 f l = (S1, V1, decide (f = V.M.v.cert)) := by
 have e2 : St.meta_ V1 = St.meta_ V := by unfold St.meta_; rw [e]
 unfold St.fill
 rw [e2, hf, e]
 exact ⟨if_neg (by simp), if_neg (by simp)⟩
theorem Few.msg (h : Few q S V c d) (hq : 500000 ≤ q) (hc : c + 2000 ≤ 70000) (hd : d + 2012 ≤ 70000) (ni : Int) (m : Mq) (l : List It) (hl : l.length ≤ 60) :
  ∃ S' V' a S'', St.msg S V ni 0 m l = (S', V', a) ∧ Few q S' V' (c + 1942) (d + 2012) ∧ St.msg S' V' ni 0 m l = (S'', V', a) ∧ Few q S'' V' (c + 1942) (d + 2012) := by
 have hb := h.mono (c' := c + 1942) (d' := d + 2012) (by omega) (by omega)
 obtain ⟨hn, hs, hz⟩ := h
 unfold St.msg
 by_cases ho : m.ok l = false ∨ m.to_ ≠ ni
 ·rw [if_pos ho]
  exact ⟨S, V, none, S, rfl, hb, by rw [if_pos ho], hb⟩
 rw [if_neg ho]
 have hok : m.ok l = true := by
  cases he : m.ok l with
  | true => rfl
  | false => exact absurd (.inl he) ho
 have hok2 := hok
 unfold Mq.ok at hok2
 simp only [Bool.and_eq_true, decide_eq_true_eq] at hok2
 obtain ⟨_, _, _, _, _, hno, ha, _⟩ := hok2
 by_cases h1 : m.k = 1
 ·rw [if_pos h1]
  by_cases hf : (l.any fun a => decide (a.v ≤ V.M.v.floor)) = true
  ·have e : St.put S V l = (S, V, some (3, V.M.v.floor, [])) := by unfold St.put; rw [if_pos hf]
   exact ⟨S, V, _, S, e, hb, by rw [if_neg ho, if_pos h1]; exact e, hb⟩
  ·obtain ⟨S', V', b, S'', g1, g2, g3, g4, g5, g6⟩ := hn.lastB hq hc ha hl hs
   refine ⟨S', V', if b = true then some (2, 0, []) else none, S'', ?_, ⟨g2.mono (Nat.le_refl _) (by omega), g4, by rw [g3]; exact hz⟩, ?_, ⟨g6.mono (Nat.le_refl _) (by omega), g4, by rw [g3]; exact hz⟩⟩
   ·unfold St.put
    rw [if_neg hf, g1]
    cases b <;> rfl
   ·rw [if_neg ho, if_pos h1]
    unfold St.put
    rw [g3, if_neg hf, g5]
    cases b <;> rfl
 rw [if_neg h1]
 by_cases h2 : m.k = 4
 ·rw [if_pos h2]
  exact ⟨S, V, _, S, rfl, hb, by rw [if_neg ho, if_neg h1, if_pos h2], hb⟩
 rw [if_neg h2]
 by_cases h3 : m.k = 6
 ·rw [if_pos h3]
  by_cases h5 : m.no = 0
  ·rw [if_pos h5]
   exact ⟨S, V, _, S, rfl, hb, by rw [if_neg ho, if_neg h1, if_neg h2, if_pos h3, if_pos h5], hb⟩
  rw [if_neg h5]
  by_cases h6 : m.no < V.M.v.floor
  ·have e : St.seal S V m.no = (S, V, some (3, V.M.v.floor, [])) := by unfold St.seal; rw [if_pos h6]
   exact ⟨S, V, _, S, e, hb, by rw [if_neg ho, if_neg h1, if_neg h2, if_pos h3, if_neg h5]; exact e, hb⟩
  by_cases h7 : m.no = V.M.v.floor
  ·have e : St.seal S V m.no = (S, V, some (7, m.no, upto V.st m.no)) := by unfold St.seal; rw [if_neg h6, if_pos h7]
   exact ⟨S, V, _, S, e, hb, by rw [if_neg ho, if_neg h1, if_neg h2, if_pos h3, if_neg h5]; exact e, hb⟩
  obtain ⟨S', V', g1, g2, g3, g4⟩ := hn.raise hq hd (f := m.no) h5 hno
  have hb2 : Few q S' V' (c + 1942) (d + 2012) := ⟨g2.mono (by omega) (Nat.le_refl _), by rw [g3]; exact hs, by rw [g4]; exact hz⟩
  refine ⟨S', V', some (7, m.no, upto V.st m.no), S', ?_, hb2, ?_, hb2⟩
  ·unfold St.seal
   rw [if_neg h6, if_neg h7, g1]
   rfl
  ·rw [if_neg ho, if_neg h1, if_neg h2, if_pos h3, if_neg h5]
   unfold St.seal
   rw [g4, g3]
   simp only
   rw [if_neg (by omega), if_pos trivial]
 rw [if_neg h3]
 by_cases h5 : m.k = 8
 ·rw [if_pos h5]
  cases hf : (St.meta_ V).fills m.no with
  | false =>
   obtain ⟨e, _⟩ := fill_same (S := S) (S1 := S) m.no l (rfl : V.M.v = V.M.v) hf
   exact ⟨S, V, _, S, by rw [e], hb, by rw [if_neg ho, if_neg h1, if_neg h2, if_neg h3, if_pos h5, e], hb⟩
  | true =>
   obtain ⟨S', V', b, S'', g1, g2, g3, g4, g5, g6⟩ := hn.lastB hq hc (upto_ok ha m.no) (Nat.le_trans (upto_len l m.no) hl) hs
   have e1 : St.fill S V m.no l = (S', V', b) := by unfold St.fill; rw [if_pos hf]; exact g1
   have e2 : St.fill S' V' m.no l = (S'', V', b) := by
    unfold St.fill
    rw [show St.meta_ V' = St.meta_ V by unfold St.meta_; rw [g3], if_pos hf]
    exact g5
   exact ⟨S', V', _, S'', by rw [e1], ⟨g2.mono (Nat.le_refl _) (by omega), g4, by rw [g3]; exact hz⟩, by rw [if_neg ho, if_neg h1, if_neg h2, if_neg h3, if_pos h5, e2], ⟨g6.mono (Nat.le_refl _) (by omega), g4, by rw [g3]; exact hz⟩⟩
 rw [if_neg h5]
 by_cases h6 : m.k = 10
 ·rw [if_pos h6]
  by_cases h7 : m.no ≤ V.M.v.cert ∨ V.M.v.floor < m.no
  ·have e : St.even S V m.no 0 = (S, V) := by unfold St.even; rw [if_pos h7]
   exact ⟨S, V, none, S, by rw [e], hb, by rw [if_neg ho, if_neg h1, if_neg h2, if_neg h3, if_neg h5, if_pos h6, e], hb⟩
  have h4 := hn.four
  have hmm : St.mayMeta { St.meta_ V with cert := m.no, at_ := 0 } (St.meta_ V) := ⟨⟨h4.1, fun e => e⟩, ⟨hno, fun e => by have e2 : m.no = 0 := e; omega⟩, ⟨by simp, fun _ => hz⟩, ⟨h4.2.2.2, fun e => e⟩⟩
  obtain ⟨S', V', g1, g2, g3, g4⟩ := hn.setm hq hd hmm
  have hb2 : Few q S' V' (c + 1942) (d + 2012) := ⟨g2.mono (by omega) (Nat.le_refl _), by rw [g3]; exact hs, by rw [g4]⟩
  refine ⟨S', V', none, S', ?_, hb2, ?_, hb2⟩
  ·unfold St.even
   rw [if_neg h7, g1]
  ·rw [if_neg ho, if_neg h1, if_neg h2, if_neg h3, if_neg h5, if_pos h6]
   unfold St.even
   rw [if_pos (.inl (by rw [g4]; exact Nat.le_refl _))]
 rw [if_neg h6]
 exact ⟨S, V, none, S, rfl, hb, by rw [if_neg ho, if_neg h1, if_neg h2, if_neg h3, if_neg h5, if_neg h6], hb⟩
end Nd
end
section
open Go Go.RowKit Go.Lib Go.Shelf
variable {w w0 w1 w2 : World}
theorem rsamemsg_any (k f t : Int) (i o : Nat) (A : Option Addr) (n c : Nat) (B : Option Addr) (m d : Nat) (l : List It) (w : World) (hn : n ≤ 1000000) (ra : Row w.heap.size w A n 5 (itc l)) (rb : Row w.heap.size w B m 5 (itc l)) :
  Calls Tryz.prog 55 #[.agg #[.int .i64 k, .int .i64 f, .int .i64 t, .int .u64 (i : Int), .int .u64 (o : Int), .slice A n c], .agg #[.int .i64 k, .int .i64 f, .int .i64 t, .int .u64 (i : Int), .int .u64 (o : Int), .slice B m d]] w fun e w' => e = .returned (.bool true) ∧ Below w.heap.size w w' := by
 have hm : m ≤ 1000000 := by have := ra.itlen; have := rb.itlen; omega
 have hb2 := ((Below.refl w.heap.size w).alloc (Nat.le_refl _) (.cells #[.int .i64 k, .int .i64 f, .int .i64 t, .int .u64 (i : Int), .int .u64 (o : Int), .slice A n c] 47)).alloc (by simp) (.cells #[.int .i64 k, .int .i64 f, .int .i64 t, .int .u64 (i : Int), .int .u64 (o : Int), .slice B m d] 47)
 have he := fun W (hb : Below w.heap.size w W) => requal_any A n c l B m d l W hn hm ((ra.below hb).up hb.size) ((rb.below hb).up hb.size)
 rw [decide_eq_true rfl] at he
 have HE := Lib.hid (he _ hb2)
 have HB := Lib.hid hb2
 clear he ra rb hb2
 go_enter Tryz.func55, Tryz.ntmps55
 go_wp2_with fail
 with_reducible refine HE.out.mono ?_
 rintro e w3 ⟨rfl, hb3⟩
 have HZ := Lib.hid (HB.out.trans (hb3.mono HB.out.size))
 clear hb3 HE HB
 go_wp2
 go_ret
 exact ⟨rfl, HZ.out⟩
theorem rsamemsgs_nil (w : World) : Calls Tryz.prog 25 #[.slice none 0 0, .slice none 0 0] w fun e w' => e = .returned (.bool true) ∧ Below w.heap.size w w' := by
 have HB := Lib.hid (Below.refl w.heap.size w)
 go_enter Tryz.func25, Tryz.ntmps25
 go_wp2
 go_loopw [5] (fun i wr => i = .int .i64 0 ∧ Below w.heap.size w wr) (fun _ _ => 0)
 case atStart => exact ⟨rfl, HB.out⟩
 case round =>
  obtain ⟨rfl, hbl⟩ := hrel
  go_wp2
  go_ret
  exact ⟨rfl, hbl⟩
theorem rsamemsgs_one (ga gb : Nat) (k f t : Int) (i o : Nat) (A : Option Addr) (n c : Nat) (B : Option Addr) (m d : Nat) (l : List It) (w : World) (hn : n ≤ 1000000) (ha : Answ w ga k f t i o A n c) (hb : Answ w gb k f t i o B m d) (ra : Row w.heap.size w A n 5 (itc l)) (rb : Row w.heap.size w B m 5 (itc l)) :
  Calls Tryz.prog 25 #[.slice (some ⟨ga, 0, none⟩) 1 1, .slice (some ⟨gb, 0, none⟩) 1 1] w fun e w' => e = .returned (.bool true) ∧ Below w.heap.size w w' := by
 have hs := fun W (hq : Below w.heap.size w W) => rsamemsg_any k f t i o A n c B m d l W hn ((ra.below hq).up hq.size) ((rb.below hq).up hq.size)
 have HS := Lib.hid hs
 have HX := Lib.hid (And.intro (show BoxO w _ _ _ from ha) (show BoxO w _ _ _ from hb))
 have HB := Lib.hid (Below.refl w.heap.size w)
 clear hs ha hb ra rb
 go_enter Tryz.func25, Tryz.ntmps25
 go_wp2
 go_loopw [5] (fun i wr => ∃ k : Nat, k ≤ 1 ∧ i = .int .i64 (k : Int) ∧ Below w.heap.size w wr) (fun i _ => 1 - (intOf i).toNat)
 case atStart => exact ⟨0, by omega, rfl, HB.out⟩
 case round =>
  obtain ⟨k, hk, rfl, hbl⟩ := hrel
  have HBL := Lib.hid hbl
  by_cases hlt : k < 1
  ·have hk0 : k = 0 := by omega
   subst hk0
   clear hlt hk hbl
   go_wp2_with fail
   refine wp_region_held_drew (S := fun w' => Below w.heap.size w w') rfl (below_drew HBL.out) (fun hSw => ?_)
   refine wpT (i := 0) (v := ?vrsm0) ?hrsm0 hSw ?krsm0
   case hrsm0 => (intro w hSw; (have p := HX.out.1.below hSw; have q := HX.out.2.below hSw; have p0 := p.cell 0; have p1 := p.cell 1; have p2 := p.cell 2; have p3 := p.cell 3; have p4 := p.cell 4; have p5 := p.cell 5; have q0 := q.cell 0; have q1 := q.cell 1; have q2 := q.cell 2; have q3 := q.cell 3; have q4 := q.cell 4; have q5 := q.cell 5; simp only [gE0, gE1] at p0 p1 p2 p3 p4 p5 q0 q1 q2 q3 q4 q5; clear p q); go_simp; try (with_reducible rfl))
   go_simp
   refine wpT (i := 1) (v := ?vrsm1) ?hrsm1 hSw ?krsm1
   case hrsm1 => (intro w hSw; (have p := HX.out.1.below hSw; have q := HX.out.2.below hSw; have p0 := p.cell 0; have p1 := p.cell 1; have p2 := p.cell 2; have p3 := p.cell 3; have p4 := p.cell 4; have p5 := p.cell 5; have q0 := q.cell 0; have q1 := q.cell 1; have q2 := q.cell 2; have q3 := q.cell 3; have q4 := q.cell 4; have q5 := q.cell 5; simp only [gE0, gE1] at p0 p1 p2 p3 p4 p5 q0 q1 q2 q3 q4 q5; clear p q); go_simp; try (with_reducible rfl))
   go_simp
   refine wpT (i := 2) (v := ?vrsm2) ?hrsm2 hSw ?krsm2
   case hrsm2 => (intro w hSw; (have p := HX.out.1.below hSw; have q := HX.out.2.below hSw; have p0 := p.cell 0; have p1 := p.cell 1; have p2 := p.cell 2; have p3 := p.cell 3; have p4 := p.cell 4; have p5 := p.cell 5; have q0 := q.cell 0; have q1 := q.cell 1; have q2 := q.cell 2; have q3 := q.cell 3; have q4 := q.cell 4; have q5 := q.cell 5; simp only [gE0, gE1] at p0 p1 p2 p3 p4 p5 q0 q1 q2 q3 q4 q5; clear p q); go_simp; try (with_reducible rfl))
   go_simp
   refine wpT (i := 3) (v := ?vrsm3) ?hrsm3 hSw ?krsm3
   case hrsm3 => (intro w hSw; (have p := HX.out.1.below hSw; have q := HX.out.2.below hSw; have p0 := p.cell 0; have p1 := p.cell 1; have p2 := p.cell 2; have p3 := p.cell 3; have p4 := p.cell 4; have p5 := p.cell 5; have q0 := q.cell 0; have q1 := q.cell 1; have q2 := q.cell 2; have q3 := q.cell 3; have q4 := q.cell 4; have q5 := q.cell 5; simp only [gE0, gE1] at p0 p1 p2 p3 p4 p5 q0 q1 q2 q3 q4 q5; clear p q); go_simp; try (with_reducible rfl))
   go_simp
   refine wpT (i := 4) (v := ?vrsm4) ?hrsm4 hSw ?krsm4
   case hrsm4 => (intro w hSw; (have p := HX.out.1.below hSw; have q := HX.out.2.below hSw; have p0 := p.cell 0; have p1 := p.cell 1; have p2 := p.cell 2; have p3 := p.cell 3; have p4 := p.cell 4; have p5 := p.cell 5; have q0 := q.cell 0; have q1 := q.cell 1; have q2 := q.cell 2; have q3 := q.cell 3; have q4 := q.cell 4; have q5 := q.cell 5; simp only [gE0, gE1] at p0 p1 p2 p3 p4 p5 q0 q1 q2 q3 q4 q5; clear p q); go_simp; try (with_reducible rfl))
   go_simp
   refine wpT (i := 5) (v := ?vrsm5) ?hrsm5 hSw ?krsm5
   case hrsm5 => (intro w hSw; (have p := HX.out.1.below hSw; have q := HX.out.2.below hSw; have p0 := p.cell 0; have p1 := p.cell 1; have p2 := p.cell 2; have p3 := p.cell 3; have p4 := p.cell 4; have p5 := p.cell 5; have q0 := q.cell 0; have q1 := q.cell 1; have q2 := q.cell 2; have q3 := q.cell 3; have q4 := q.cell 4; have q5 := q.cell 5; simp only [gE0, gE1] at p0 p1 p2 p3 p4 p5 q0 q1 q2 q3 q4 q5; clear p q); go_simp; try (with_reducible rfl))
   go_simp
   refine wpT (i := 6) (v := ?vrsm6) ?hrsm6 hSw ?krsm6
   case hrsm6 => (intro w hSw; (have p := HX.out.1.below hSw; have q := HX.out.2.below hSw; have p0 := p.cell 0; have p1 := p.cell 1; have p2 := p.cell 2; have p3 := p.cell 3; have p4 := p.cell 4; have p5 := p.cell 5; have q0 := q.cell 0; have q1 := q.cell 1; have q2 := q.cell 2; have q3 := q.cell 3; have q4 := q.cell 4; have q5 := q.cell 5; simp only [gE0, gE1] at p0 p1 p2 p3 p4 p5 q0 q1 q2 q3 q4 q5; clear p q); go_simp; try (with_reducible rfl))
   go_simp
   refine wpT (i := 7) (v := ?vrsm7) ?hrsm7 hSw ?krsm7
   case hrsm7 => (intro w hSw; (have p := HX.out.1.below hSw; have q := HX.out.2.below hSw; have p0 := p.cell 0; have p1 := p.cell 1; have p2 := p.cell 2; have p3 := p.cell 3; have p4 := p.cell 4; have p5 := p.cell 5; have q0 := q.cell 0; have q1 := q.cell 1; have q2 := q.cell 2; have q3 := q.cell 3; have q4 := q.cell 4; have q5 := q.cell 5; simp only [gE0, gE1] at p0 p1 p2 p3 p4 p5 q0 q1 q2 q3 q4 q5; clear p q); go_simp; try (with_reducible rfl))
   go_simp
   refine wpAnyH_ready (rs := [8]) (by kernel_rfl) (by simp) ?_
   refine AllReadyH.cons rfl (fun K hK => ?_) AllReadyH.nil
   go_simp
   with_reducible refine (HS.out _ hSw).mono ?_
   rintro e w3 ⟨rfl, hb3⟩
   go_simp
   refine hK.out _ _ (later_ hSw hb3) (fun hSn => ?_)
   clear hK K hSw
   have hSw := hSn
   clear hSn
   go_simp
   refine wpT (i := 9) (v := ?vrsm9) ?hrsm9 hSw ?krsm9
   case hrsm9 => (intro w hSw; (have p := HX.out.1.below hSw; have q := HX.out.2.below hSw; have p0 := p.cell 0; have p1 := p.cell 1; have p2 := p.cell 2; have p3 := p.cell 3; have p4 := p.cell 4; have p5 := p.cell 5; have q0 := q.cell 0; have q1 := q.cell 1; have q2 := q.cell 2; have q3 := q.cell 3; have q4 := q.cell 4; have q5 := q.cell 5; simp only [gE0, gE1] at p0 p1 p2 p3 p4 p5 q0 q1 q2 q3 q4 q5; clear p q); go_simp; try (with_reducible rfl))
   go_simp
   refine wpAnyH_done (by kernel_rfl) ?_ _
   have HZ := Lib.hid (later_ (below_drew HBL.out) hb3)
   clear hSw hb3
   go_wp2
   go_roundw
   case rel => exact ⟨1, by omega, rfl, HZ.out⟩
   case measure => simp [intOf]
  ·have hk1 : k = 1 := by omega
   subst hk1
   clear hlt hk
   go_wp2
   go_ret
   exact ⟨rfl, hbl⟩
end
section
open Go Go.RowKit Go.Lib Go.Shelf
variable {w w0 w1 w2 : World} {X X1 X2 : Dw} {S S1 S2 : Sd} {Y Y1 Y2 : Yw} {V V1 V2 : Sv} {nb now grace : Nat} {ni : Int}
theorem Mq.In.below {m : Mq} {l : List It} (h : m.In l w) (hb : Below w.heap.size w w1) : m.In l w1 := ⟨h.nc, h.cm, (h.row.below hb).up hb.size, h.fit⟩
theorem Mq.In.len {m : Mq} {l : List It} (h : m.In l w) : l.length = m.n := h.row.itlen
def NaI (w0 w : World) (nb k : Nat) : Prop := ∃ X S Y V, NdW w0 w X S Y V nb 1 0 4 ∧ Nd.Few 4194304 S V (1942 * k) (100 + 2012 * k)
theorem NaI.below {k : Nat} (h : NaI w0 w nb k) (hb : Below w.heap.size w w1) : NaI w0 w1 nb k := let ⟨X, S, Y, V, a, b⟩ := h; ⟨X, S, Y, V, a.below hb, b⟩
theorem NaI.bel {k : Nat} (h : NaI w0 w nb k) : Below w0.heap.size w0 w := let ⟨_, _, _, _, a, _⟩ := h; a.bel
theorem Row.lows {A : Option Addr} {n : Nat} {l : List It} {W : World} (h : Row W.heap.size W A n 5 (itc l)) : ∀ j, j < (itc l).length → ∀ a, A = some a → a.block < W.heap.size := fun j hj a ha => by
 obtain ⟨b, e, hlt, _⟩ := h.cell j hj
 rw [ha] at e
 injection e with e
 rw [e]
 exact hlt
theorem na_hand (h : NdW w0 w X S Y V nb 1 0 4) {c d : Nat} (hf : Nd.Few 4194304 S V c d) (hc : c ≤ 70000) (hd : d ≤ 70000) (m : Mq) (l : List It) (hin : m.In l w0) (hn : m.n ≤ 60) :
  Calls Tryz.prog 16 #[.pointer (some ⟨nb, 0, none⟩), m.val] w (HPost X Y w (St.msg S V 1 0 m l).1 (St.msg S V 1 0 m l).2.1 nb 1 0 4 m.frm m.id (St.msg S V 1 0 m l).2.2) := by
 have h4 := hf.ns.four
 have hb := h.bel
 refine handle_any h.at_ (hf.ns.nrm (by omega) (by omega) hf.len) m l ((hin.row.below hb).up hb.size) hin.nc (by omega) (fun h0 a ha hm => ?_) hin.fit ⟨by omega, fun _ => hf.at_⟩ h4
 have h1 := h.low _ hm
 have h2 := Row.lows hin.row 0 (by rw [itc_length, hin.len]; omega) a ha
 omega
end
section
open Go Go.RowKit Go.Lib Go.Shelf
variable {w w0 w1 w2 : World} {X X1 X2 : Dw} {S S1 S2 : Sd} {Y Y1 Y2 : Yw} {V V1 V2 : Sv} {nb now grace : Nat} {ni : Int} {G : List Nat}
def ResAt (w : World) (G : List Nat) (frm : Int) (mi : Nat) (v : Value) (an : Option (Int × Nat × List It)) : Prop :=
 match an with
 | none => v = .slice none 0 0
 | some (k, no, L) => ∃ g B n c, v = .slice (some ⟨g, 0, none⟩) 1 1 ∧ Answ w g k 1 frm mi no B n c ∧ Row w.heap.size w B n 5 (itc L) ∧ L.length ≤ 1500 ∧ g ∉ G ∧ ∀ a, B = some a → a.block ∉ G
theorem ResAt.below {frm : Int} {mi : Nat} {v : Value} {an : Option (Int × Nat × List It)} (h : ResAt w G frm mi v an) (hb : Below w.heap.size w w1) : ResAt w1 G frm mi v an := by
 cases an with
 | none => exact h
 | some z =>
  obtain ⟨z1, z2, z3⟩ := z
  obtain ⟨g, B, n, c, h1, h2, h3, h4, h5, h6⟩ := h
  exact ⟨g, B, n, c, h1, BoxO.below h2 hb, (h3.below hb).up hb.size, h4, h5, h6⟩
theorem ResAt.chg {frm : Int} {mi : Nat} {v : Value} {an : Option (Int × Nat × List It)} (h : ResAt w G frm mi v an) (c : Chg G w w1) : ResAt w1 [] frm mi v an := by
 cases an with
 | none => exact h
 | some z =>
  obtain ⟨z1, z2, z3⟩ := z
  obtain ⟨g, B, n, c', h1, h2, h3, h4, h5, h6⟩ := h
  exact ⟨g, B, n, c', h1, BoxO.chg h2 c h5, (row_chg c h3 (Nat.le_refl _) fun j _ a ha => h6 a ha).up c.size, h4, by simp, fun _ _ => by simp⟩
theorem ResAt.any {frm : Int} {mi : Nat} {v : Value} {an : Option (Int × Nat × List It)} (h : ResAt w G frm mi v an) : ResAt w [] frm mi v an := by
 cases an with
 | none => exact h
 | some z =>
  obtain ⟨z1, z2, z3⟩ := z
  obtain ⟨g, B, n, c', h1, h2, h3, h4, h5, h6⟩ := h
  exact ⟨g, B, n, c', h1, h2, h3, h4, by simp, fun _ _ => by simp⟩
theorem sames_any {frm : Int} {mi : Nat} {v1 v2 : Value} {an : Option (Int × Nat × List It)} (h1 : ResAt w [] frm mi v1 an) (h2 : ResAt w [] frm mi v2 an) :
  Calls Tryz.prog 25 #[v1, v2] w fun e w' => e = .returned (.bool true) ∧ Below w.heap.size w w' := by
 cases an with
 | none =>
  obtain rfl : v1 = .slice none 0 0 := h1
  obtain rfl : v2 = .slice none 0 0 := h2
  exact rsamemsgs_nil w
 | some z =>
  obtain ⟨k, no, L⟩ := z
  obtain ⟨g, B, n, c, rfl, a1, a2, a3, _⟩ := h1
  obtain ⟨g', B', n', c', rfl, b1, b2, b3, _⟩ := h2
  exact rsamemsgs_one g g' k 1 frm mi no B n c B' n' c' L w (by have := a2.itlen; omega) a1 b1 a2 b2
theorem msg_len {now : Nat} {m : Mq} {l L : List It} {k : Int} {no : Nat} (h : St.msg S V ni now m l = (S1, V1, some (k, no, L))) : L.length ≤ V.st.length := by
 unfold St.msg St.put St.seal at h
 repeat' split at h
 all_goals first | (simp at h; done) | (simp only [Prod.mk.injEq, Option.some.injEq] at h; obtain ⟨_, _, _, _, rfl⟩ := h; first | exact Nat.zero_le _ | exact List.length_filter_le _ _)
theorem na_res {frm : Int} {mi : Nat} {an : Option (Int × Nat × List It)} {e : Ending} (h : NdW w0 w X S Y V nb 1 0 4) (hp : HPost X Y w S1 V1 nb 1 0 4 frm mi an e w1) (hl : ∀ k no L, an = some (k, no, L) → L.length ≤ 1500) :
  ∃ v X1 Y1, e = .returned v ∧ NdW w0 w1 X1 S1 Y1 V1 nb 1 0 4 ∧ ResAt w1 (XY X1 Y1) frm mi v an ∧ Chg (XY X Y) w w1 := by
 obtain ⟨X1, Y1, _, _, h1, c1, f1, _, ha⟩ := hp
 cases an with
 | none => exact ⟨_, X1, Y1, ha, h.turn h1 c1 f1, rfl, c1⟩
 | some z =>
  obtain ⟨k, no, L⟩ := z
  obtain ⟨g, B, n, c, he, h2, _, h3, _, h5, h6⟩ := ha
  exact ⟨_, X1, Y1, he, h.turn h1 c1 f1, ⟨g, B, n, c, rfl, h2, h3, hl _ _ _ rfl, h5, h6⟩, c1⟩
theorem own_low {b n c size : Nat} {e : TypeId} {A : Option Addr} {xs : List Value} (h : w.ownsRow b e size (.slice A n c) n xs) : ∀ a, A = some a → b ≤ a.block := fun a ha => by
 rcases h.2 with ⟨h1, _⟩ | ⟨g, cap, cur, h1, h2, _⟩
 ·injection h1 with h1
  rw [ha] at h1
  cases h1
 ·injection h1 with h1
  rw [ha] at h1
  injection h1 with h1
  rw [h1]
  exact h2
end
end Go.Proofs.YtdkjoigpahafmaaGreatDoor
