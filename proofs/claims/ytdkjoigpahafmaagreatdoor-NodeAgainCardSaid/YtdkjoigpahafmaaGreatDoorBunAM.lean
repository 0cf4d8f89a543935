/- Texts Fixed, ManD, EditK, ManI, ManE, ManF, ManG, ManJ, ManK, EditL, Views, RefV, RefA, Openers, FilesOpen in one. No conditions. -/
import Derived.Test.YtdkjoigpahafmaaGreatDoorBunAL
import Derived.Test.YtdkjoigpahafmaaGreatDoorBunAK
import Derived.Test.YtdkjoigpahafmaaGreatDoorBunAA
import Derived.StillTailTactics
import Derived.Deep.RegionHeld3
import Derived.Test.YtdkjoigpahafmaaGreatDoorBunAJ
import Derived.Test.YtdkjoigpahafmaaGreatDoorBunAD
import Derived.Test.YtdkjoigpahafmaaGreatDoorBunAF
import Derived.BigQuiet
import Derived.Deep.Slices
import Derived.Deep.Fields
import Derived.Lib.SmallJoins
import Derived.ChangeSame
import Derived.ChangeArms
import Derived.DataReads
import Derived.OpenShut

set_option linter.unusedSimpArgs false
set_option linter.unusedVariables false
set_option maxRecDepth 100000
set_option maxHeartbeats 16000000
namespace Go.Proofs.YtdkjoigpahafmaaGreatDoor
section
open Go Go.RowKit
variable {B n : Nat} {w w' : World} {A : Option Addr}
def Fixed (F : List Nat) (w : World) (p : World → Prop) : Prop := ∀ w', Chg F w w' → p w'
theorem Fixed.now {F : List Nat} {p : World → Prop} (h : Fixed F w p) : p w := h w (Chg.refl F w)
theorem Fixed.step {F G : List Nat} {p : World → Prop} (h : Fixed F w p) (c : Chg F w w') (hG : ∀ g ∈ G, g ∈ F ∨ w.heap.size ≤ g) : Fixed G w' p := fun _ k => h _ (c.trans k hG)
theorem Fixed.below {F : List Nat} {p : World → Prop} (h : Fixed F w p) (c : Below w.heap.size w w') : Fixed F w' p := h.step (Chg.of_below c F) fun _ h => .inl h
theorem Fixed.and {F : List Nat} {p q : World → Prop} (h : Fixed F w p) (k : Fixed F w q) : Fixed F w fun w => p w ∧ q w := fun w' c => ⟨h w' c, k w' c⟩
theorem Fixed.mono {F : List Nat} {p q : World → Prop} (h : Fixed F w p) (k : ∀ w, p w → q w) : Fixed F w q := fun w' c => k w' (h w' c)
theorem Fixed.row {F : List Nat} {sz : Nat} {vs : List Value} (h : Row B w A n sz vs) (hB : B ≤ w.heap.size) (hF : ∀ j, j < vs.length → ∀ a, A = some a → a.block ∉ F) : Fixed F w fun w => Row B w A n sz vs :=
 fun _ c => row_chg c h hB hF
end
section
open Go Go.RowKit Go.Shelf
structure Mst (m : Nat) (X : Dw) (w : World) (S : Sd) (M : Ms) (w' : World) (X' : Dw) : Prop where
 acc : Acc [m] X w S w' X'
 man : MK w' m X.d M
 lt : m < w.heap.size
 out : m ∉ X.foot
 ng : NG ≤ m
variable {m : Nat} {X X1 : Dw} {w w1 w2 : World} {S S1 : Sd} {M M1 : Ms}
theorem Mst.start (h : Dm w X S) (hm : MK w m X.d M) (ho : m ∉ X.foot) (hn : NG ≤ m) : Mst m X w S M w X := ⟨Acc.start h, hm, hm.lt, ho, hn⟩
theorem Mst.away (h : Mst m X w S M w1 X1) : m ∉ X1.foot := fun hm => by
 rcases h.acc.f m hm with h1 | h1
 ·exact h.out h1
 ·have := h.lt
  omega
theorem Mst.below (h : Mst m X w S M w1 X1) (hb : Below w1.heap.size w1 w2) : Mst m X w S M w2 X1 := ⟨h.acc.below hb, h.man.below hb, h.lt, h.out, h.ng⟩
theorem Mst.step (h : Mst m X w S M w1 X1) (hu : UpdM X1 w1 w2 S1) : ∃ X2, Mst m X w S1 M w2 X2 := by
 obtain ⟨X2, hs⟩ := h.acc.step hu
 obtain ⟨_, _, _, hc, _⟩ := hu
 exact ⟨X2, hs, h.man.chg hc h.away, h.lt, h.out, h.ng⟩
theorem Mst.turn (h : Mst m X w S M w1 X1) (c : Chg [m] w1 w2) (hm : MK w2 m X.d M1) : Mst m X w S M1 w2 X1 :=
 ⟨h.acc.other c (fun g hg => by rw [List.mem_singleton.1 hg]; exact ⟨by simp, h.lt, h.out, h.ng⟩), hm, h.lt, h.out, h.ng⟩
theorem Mst.read (h : Mst m X w S M w1 X1) (s : ByteArray) (hs : s.size ≤ maxLen) :
  Calls Tryz.prog 125 #[.pointer (some ⟨X.d, 0, none⟩), .string s] w1 fun e w' => ∃ A c, e = .returned (.tuple #[.slice A (S.read s.data.toList).1.length c, .int .i64 ((S.read s.data.toList).2 : Int)]) ∧ Below w1.heap.size w1 w' :=
 (h.acc.read s hs).mono fun _ _ ⟨A, c, h1, _, h2⟩ => ⟨A, c, h1, h2⟩
theorem Mst.write (h : Mst m X w S M w1 X1) (s : ByteArray) (hs : s.size ≤ maxLen) (A : Option Addr) (k c : Nat) (b : List UInt8) (hk : k ≤ 1099511627776) (hl : S.load ≤ 1099511627776) (hr : Row w1.heap.size w1 A k 1 (bts b)) (hA : ∀ a, A = some a → a.block ∉ X1.foot) :
  Calls Tryz.prog 199 #[.pointer (some ⟨X.d, 0, none⟩), .string s, .slice A k c] w1 fun e w' => e = .returned (.int .i64 ((S.write s.data.toList b).2 : Int)) ∧ ∃ X2, Mst m X w (S.write s.data.toList b).1 M w' X2 := by
 rw [← h.acc.e]
 exact (write_any X1 S s hs A k c b hk hl w1 h.acc.dm hr hA).mono fun _ _ ⟨h1, h2⟩ => ⟨h1, h.step h2⟩
theorem Mst.append (h : Mst m X w S M w1 X1) (s : ByteArray) (hs : s.size ≤ maxLen) (A : Option Addr) (k c : Nat) (b : List UInt8) (hk : k ≤ 1099511627776) (hr : Row w1.heap.size w1 A k 1 (bts b)) (hA : ∀ a, A = some a → a.block ∉ X1.foot) :
  Calls Tryz.prog 84 #[.pointer (some ⟨X.d, 0, none⟩), .string s, .slice A k c] w1 fun e w' => e = .returned (.int .i64 ((S.append s.data.toList b).2 : Int)) ∧ ∃ X2, Mst m X w (S.append s.data.toList b).1 M w' X2 := by
 rw [← h.acc.e]
 exact (append_any X1 S s hs A k c b hk h.acc.dm.wf w1 h.acc.dm.dk hr (fun a ha e => hA a ha (by rw [e]; exact mem_foot.2 (.inl rfl)))).mono fun _ _ ⟨h1, h2⟩ => ⟨h1, h.step (h.acc.dm.upd (h.acc.dm.wf.append _ _) h2)⟩
theorem Mst.sync (h : Mst m X w S M w1 X1) (s : ByteArray) (hs : s.size ≤ maxLen) :
  Calls Tryz.prog 173 #[.pointer (some ⟨X.d, 0, none⟩), .string s] w1 fun e w' => e = .returned (.int .i64 ((S.sync s.data.toList).2 : Int)) ∧ ∃ X2, Mst m X w (S.sync s.data.toList).1 M w' X2 := by
 rw [← h.acc.e]
 exact (sync_any X1 S s hs h.acc.dm.wf w1 h.acc.dm.dk).mono fun _ _ ⟨h1, h2⟩ => ⟨h1, h.step (h.acc.dm.upd (h.acc.dm.wf.sync _) h2)⟩
theorem Mst.remove (h : Mst m X w S M w1 X1) (s : ByteArray) (hs : s.size ≤ maxLen) (hl : S.load ≤ 1099511627776) :
  Calls Tryz.prog 100 #[.pointer (some ⟨X.d, 0, none⟩), .string s] w1 fun e w' => e = .returned (.int .i64 ((S.remove s.data.toList).2 : Int)) ∧ ∃ X2, Mst m X w (S.remove s.data.toList).1 M w' X2 := by
 rw [← h.acc.e]
 exact (remove_any X1 S s hs h.acc.dm.wf hl w1 h.acc.dm.dk).mono fun _ _ ⟨h1, h2⟩ => ⟨h1, h.step (h.acc.dm.upd (h.acc.dm.wf.remove _) h2)⟩
theorem Mst.rename (h : Mst m X w S M w1 X1) (s u : ByteArray) (hs : s.size ≤ maxLen) (hu : u.size ≤ maxLen) (hl : S.load ≤ 1099511627776) :
  Calls Tryz.prog 201 #[.pointer (some ⟨X.d, 0, none⟩), .string s, .string u] w1 fun e w' => e = .returned (.int .i64 ((S.rename s.data.toList u.data.toList).2 : Int)) ∧ ∃ X2, Mst m X w (S.rename s.data.toList u.data.toList).1 M w' X2 := by
 rw [← h.acc.e]
 exact (rename_any X1 S s u hs hu h.acc.dm.wf hl w1 h.acc.dm.dk).mono fun _ _ ⟨h1, h2⟩ => ⟨h1, h.step (h.acc.dm.upd (h.acc.dm.wf.rename _ _) h2)⟩
theorem Mst.syncDir (h : Mst m X w S M w1 X1) :
  Calls Tryz.prog 174 #[.pointer (some ⟨X.d, 0, none⟩)] w1 fun e w' => e = .returned (.int .i64 ((S.syncDir).2 : Int)) ∧ ∃ X2, Mst m X w (S.syncDir).1 M w' X2 := by
 rw [← h.acc.e]
 exact (syncDir_any X1 S h.acc.dm.wf w1 h.acc.dm.dk).mono fun _ _ ⟨h1, h2⟩ => ⟨h1, h.step (h.acc.dm.upd h.acc.dm.wf.syncDir h2)⟩
theorem Mst.break_ (h : Mst m X w S M w1 X1) : Calls Tryz.prog 202 #[.pointer (some ⟨m, 0, none⟩)] w1 fun e w' => e = .returned (.tuple #[]) ∧ Mst m X w S { M with broken := true } w' X1 :=
 (break_any m X.d M w1 h.man).mono fun _ _ ⟨h1, h2, h3⟩ => ⟨h1, h.turn h3 h2⟩
theorem Mst.trans {X2 : Dw} {S2 : Sd} {M2 : Ms} (h : Mst m X w S M w1 X1) (k : Mst m X1 w1 S2 M2 w2 X2) : Mst m X w S2 M2 w2 X2 := by
 refine ⟨⟨k.acc.e.trans h.acc.e, k.acc.dm, h.acc.c.trans k.acc.c (fun g hg => ?_), fun g hg => ?_⟩, by rw [← h.acc.e]; exact k.man, h.lt, h.out, h.ng⟩
 ·rcases List.mem_append.1 hg with h1 | h1
  ·exact .inl (List.mem_append_left _ h1)
  ·rcases h.acc.f g h1 with h2 | h2
   ·exact .inl (List.mem_append_right _ h2)
   ·exact .inr h2
 ·rcases k.acc.f g hg with h1 | h1
  ·exact h.acc.f g h1
  ·exact .inr (Nat.le_trans h.acc.c.size h1)
theorem Mst.anew (h : Mst m X w S M w1 X1) : Mst m X1 w1 S M w1 X1 := Mst.start h.acc.dm (by rw [h.acc.e]; exact h.man) h.away h.ng
def Left (m : Nat) (X : Dw) (w : World) (R : Sd × Ms × Nat) (e : Ending) (w' : World) : Prop := e = .returned (.int .i64 (R.2.2 : Int)) ∧ ∃ X', Mst m X w R.1 R.2.1 w' X'
theorem Left.mk_ {S2 : Sd} {M2 : Ms} {er : Nat} {R : Sd × Ms × Nat} (hR : R = (S2, M2, er)) {X2 : Dw} (h : Mst m X w S2 M2 w1 X2) : Left m X w R (.returned (.int .i64 (er : Int))) w1 := by
 subst hR
 exact ⟨rfl, X2, h⟩
theorem recB_len (v : Bv) : (Mw.recB v).length ≤ 200 := by
 have h1 := Pn.put_len v.g
 have h2 := Pn.put_len v.f
 have h3 := Pn.put_len v.c
 have h4 := Pn.put_len v.a
 have h5 := Pn.put_len v.l
 have h6 := Pn.put_len 0
 simp only [Mw.recB, Fr.put_length, Bv.bytes, Ed.bytes, Pn.list, List.length_append, List.map_nil, List.flatMap_nil, List.length_nil, Int.toNat_natCast]
 omega
theorem headB_len (n : Int) : (Mw.headB n).length ≤ 200 := by
 have h1 := Pn.put_len n.toNat
 simp only [Mw.headB, Fr.put_length]
 omega
def sCur : ByteArray := ⟨#[99, 117, 114, 114, 101, 110, 116]⟩
def sTemp : ByteArray := ⟨#[99, 117, 114, 114, 101, 110, 116, 46, 116, 109, 112]⟩
def sMan : ByteArray := ⟨#[109, 97, 110]⟩
theorem sCur_list : sCur.data.toList = Mw.kCur := rfl
theorem sTemp_list : sTemp.data.toList = Mw.kTemp := rfl
theorem sMan_list : sMan.data.toList = Mn.kMan := rfl
theorem numV_eq (o : Option Int) : numV o = .tuple #[.int .i64 (o.getD 0), .bool o.isSome] := by cases o <;> rfl
theorem number_range (s : List UInt8) : ∃ k : Nat, (Mn.number s Mn.kMan).getD 0 = (k : Int) ∧ k ≤ 1073741824 := by
 cases h : Mn.number s Mn.kMan with
 | none => exact ⟨0, rfl, by omega⟩
 | some v =>
  have hs : s ≠ [] := fun e => by
   subst e
   unfold Mn.number at h
   rw [if_neg (by decide)] at h
   cases h
  have := Mn.number_fits h hs
  exact ⟨v.toNat, by simp; omega, by omega⟩
end
section
open Go Go.RowKit
def put2 (f : Int × Int) : List UInt8 := Pn.put f.1.toNat ++ Pn.put f.2.toNat
theorem plist_len (ns : List Nat) : (Pn.list ns).length ≤ 10 + ns.length * 10 := by
 have h1 := (Pn.put_len ns.length).2
 have h2 := flat_put_len ns
 simp only [Pn.list, List.length_append]
 omega
theorem may_parts {e : Ed} (h : e.may = true) : e.drop.length ≤ 40 ∧ e.add.length ≤ 40 ∧ 0 ≤ e.log ∧ e.log ≤ 1073741824 ∧ e.floor ≤ 281474976710656 ∧ e.cert ≤ 281474976710656 ∧ e.at_ ≤ 281474976710656 ∧ e.lease ≤ 281474976710656 ∧
  (∀ n ∈ e.drop, 1 ≤ n ∧ n ≤ 1073741824) ∧ (∀ f ∈ e.add, 0 ≤ f.1 ∧ f.1 ≤ 3 ∧ 1 ≤ f.2 ∧ f.2 ≤ 1073741824) := by
 simp only [Ed.may, four4, Bool.and_eq_true, decide_eq_true_eq] at h
 obtain ⟨⟨⟨⟨⟨h1, h2⟩, h3⟩, h4⟩, h5⟩, h6⟩ := h
 refine ⟨h1, h2, h3.1, h3.2, h4.1.1.1, h4.1.1.2, h4.1.2, h4.2, fun n hn => ?_, fun f hf => ?_⟩
 ·have := List.all_eq_true.1 h5 n hn
  simpa [isNum] using this
 ·have := List.all_eq_true.1 h6 f hf
  simp only [isFile, isNum, Bool.and_eq_true, decide_eq_true_eq] at this
  exact ⟨this.2.1, this.2.2, this.1.1, this.1.2⟩
theorem eput_bad (A : Option Addr) (N c0 : Nat) (e : Ed) (D : Option Addr) (m d : Nat) (A2 : Option Addr) (n c : Nat) (w : World) (hbad : e.may = false) (hm : m ≤ 1000000) (hn : n ≤ 1000000) (hrd : Row w.heap.size w D m 1 (icells e.drop)) (hra : Row w.heap.size w A2 n 2 (fcells e.add)) :
  Calls Tryz.prog 197 #[.slice A N c0, e.val D m d A2 n c] w fun x w' => x = .returned (.tuple #[.slice none 0 0, .int .i64 1]) ∧ Below w.heap.size w w' := by
 have hmay := fun W (h : Below w.heap.size w W) => may_gen e D m d A2 n c W hm hn ((hrd.below h).up h.size) ((hra.below h).up h.size)
 rw [hbad] at hmay
 unfold Ed.val at *
 have HM := Lib.hid hmay
 clear hmay hrd hra
 go_enter Tryz.func197, Tryz.ntmps197
 have hb0 := (Below.refl w.heap.size w).alloc (Nat.le_refl _) (.cells #[.slice D m d, .slice A2 n c, .int .i64 e.log, .int .u64 (e.floor : Int), .int .u64 (e.cert : Int), .int .u64 (e.at_ : Int), .int .u64 (e.lease : Int)] 163)
 go_wp2_with fail
 refine (HM.out _ hb0).mono ?_
 rintro x w1 ⟨rfl, hb1⟩
 have hbz := later_ hb0 hb1
 clear hb0 hb1
 go_wp2
 exact bodyPost_ret (v := .tuple #[.slice none 0 0, .int .i64 1]) (by simp [results, go_sem]) rfl ⟨rfl, hbz⟩
theorem eput_gen (A : Option Addr) (N c0 : Nat) (b : List UInt8) (e : Ed) (D : Option Addr) (m d : Nat) (A2 : Option Addr) (n c : Nat) (w : World) (hgood : e.may = true) (hrd : Row w.heap.size w D m 1 (icells e.drop)) (hra : Row w.heap.size w A2 n 2 (fcells e.add))
  (hN : N ≤ 400000000) (hNc : N ≤ c0) (hc : c0 ≤ maxLen) (hr : Row w.heap.size w A N 1 (bts b)) :
  Calls Tryz.prog 197 #[.slice A N c0, e.val D m d A2 n c] w fun x w' => ∃ A' K c', x = .returned (.tuple #[.slice A' K c', .int .i64 0]) ∧
   w'.ownsRow w.heap.size 5 1 (.slice A' K c') K (bts (b ++ e.rec_)) ∧ K ≤ c' ∧ c' ≤ maxLen ∧ Below w.heap.size w w' := by
 have hdl := hrd.ilen
 have hal := hra.flen
 obtain ⟨hp1, hp2, hp3, hp4, hp5, hp6, hp7, hp8, hp9, hp10⟩ := may_parts hgood
 have hbl0 := Ed.bytes_len e hgood
 have hmay := fun W (h : Below w.heap.size w W) => may_gen e D m d A2 n c W (by omega) (by omega) ((hrd.below h).up h.size) ((hra.below h).up h.size)
 rw [hgood] at hmay
 have hrec : e.rec_ = Fr.put 6 e.bytes := rfl
 have hbyt : e.bytes = Pn.list (e.drop.map Int.toNat) ++ Pn.put e.add.length ++ e.add.flatMap put2 ++ [e.log.toNat, e.floor, e.cert, e.at_, e.lease].flatMap Pn.put := by
  simp [Ed.bytes]
  rfl
 rw [hrec]
 generalize e.bytes = EB at *
 obtain ⟨ds, fs, G, F, C, AA, L⟩ := e
 simp only at hdl hal hp1 hp2 hp3 hp4 hp5 hp6 hp7 hp8 hp9 hp10 hbyt hrd hra
 unfold Ed.val at hmay ⊢
 simp only at hmay ⊢
 obtain ⟨g, rfl⟩ : ∃ g : Nat, G = (g : Int) := ⟨G.toNat, by omega⟩
 rw [Int.toNat_natCast, hal] at hbyt
 have HM := Lib.hid hmay
 have HBY := Lib.hid hbyt
 have HBL := Lib.hid hbl0
 have H9 := Lib.hid hp9
 have H10 := Lib.hid hp10
 clear hmay hbyt hbl0 hp9 hp10 hrec hgood
 have hnw : IntKind.u64.wrap (n : Int) = (n : Int) := by rw [IntKind.wrap_u64]; omega
 have hgw : IntKind.u64.wrap (g : Int) = (g : Int) := by rw [IntKind.wrap_u64]; omega
 obtain ⟨j0, hj0, hj1, hj2, hj3⟩ := info_parts (show (Tryz.prog.info? 25).map (fun i => (i.zero, i.size, i.bytes)) = some (some (.int .u64 0), 1, 8) by kernel_rfl)
 go_enter Tryz.func197, Tryz.ntmps197
 have hb0 := (Below.refl w.heap.size w).alloc (Nat.le_refl _) (.cells #[.slice D m d, .slice A2 n c, .int .i64 (g : Int), .int .u64 (F : Int), .int .u64 (C : Int), .int .u64 (AA : Int), .int .u64 (L : Int)] 163)
 have hx0 := BoxO.new w #[.slice D m d, .slice A2 n c, .int .i64 (g : Int), .int .u64 (F : Int), .int .u64 (C : Int), .int .u64 (AA : Int), .int .u64 (L : Int)] 163
 go_wp2_with fail
 refine (HM.out _ hb0).mono ?_
 rintro x w1 ⟨rfl, hb1⟩
 have hx1 := hx0.below hb1
 have hbz := later_ hb0 hb1
 have hsz1 : w.heap.size + 1 ≤ w1.heap.size := by have := hb1.size; simp at this; omega
 clear hb0 hb1 hx0 HM
 have p0 := hx1.cell 0
 simp only [gE0] at p0
 go_wp2_with fail
 go_loopw [6, 20] (fun s x wr => ∃ (k : Nat) (A' : Option Addr) (cc : Nat), k ≤ m ∧ s = .slice A' k cc ∧ x = .int .i64 (k : Int) ∧ wr.ownsRow (w.heap.size + 1) 25 1 (.slice A' k cc) k (u64v ((ds.take k).map Int.toNat)) ∧
  BoxO wr 163 w.heap.size [.slice D m d, .slice A2 n c, .int .i64 (g : Int), .int .u64 (F : Int), .int .u64 (C : Int), .int .u64 (AA : Int), .int .u64 (L : Int)] ∧ Below w.heap.size w wr ∧ w.heap.size + 1 ≤ wr.heap.size) (fun _ x _ => m - (intOf x).toNat)
 case atStart => exact ⟨0, none, 0, Nat.zero_le _, rfl, rfl, World.ownsRow_nil _ _ _ _, hx1, hbz, hsz1⟩
 case round =>
  obtain ⟨k, A', cc, hk, rfl, rfl, hown, hx, hbl, hsz⟩ := hrel
  clear hx1 hbz hsz1 p0
  by_cases hlt : k < m
  ·obtain ⟨da, hl, rfl, hdb, hdc⟩ := (hrd.below hbl).int_ hlt
   have hxr := H9.out ds[k] (List.getElem_mem hl)
   have htk : ds.take (k + 1) = ds.take k ++ [ds[k]] := (List.take_append_getElem hl).symm
   generalize ds[k] = x at *
   obtain ⟨q, rfl⟩ : ∃ q : Nat, x = (q : Int) := ⟨x.toNat, by omega⟩
   have HT := Lib.hid htk
   clear htk hl
   have hqw : IntKind.u64.wrap (q : Int) = (q : Int) := by rw [IntKind.wrap_u64]; omega
   have hrow := Row.new (n := 1) (size := 1) wr #[.int .u64 (q : Int)] 25 rfl
   go_wp2_with (at_builtin; refine stop_in ?_)
   refine stop_out (wpList_app rfl (.tmp 24) (.tmp 27) _ rfl (w.heap.size + 1) 25 j0 _ 1 8 Tryz.underlying286 hj0 hj1 hj2 hj3 rfl (by omega) (wr.alloc (.cells #[.int .u64 (q : Int)] 25)) (Below.refl _ _) (by simp; omega) (.slice A' k cc) k (u64v ((ds.take k).map Int.toNat)) rfl (hown.alloc _) (wr.heap.size + 1) _ 1 1 [.int .u64 (q : Int)] rfl hrow (by simp [Value.oneCell']) (k + 1) _ rfl rfl (by unfold maxLen; omega) (by omega) ?_)
   intro A3 c3 w3 ho3 hb3 hg3 hc3 hm3
   have hx3 : BoxO w3 _ _ _ := (hb3.block _ (by omega)).trans (hx.alloc _)
   have hbl3 := (hbl.alloc hbl.size (.cells #[.int .u64 (q : Int)] 25)).trans (hb3.mono (by omega))
   have hsz3 : w.heap.size + 1 ≤ w3.heap.size := by have := hb3.size; simp at this; omega
   clear hown hx hbl hb3 hg3 hrow
   go_wp2_with fail
   go_roundw
   case rel =>
    refine ⟨k + 1, A3, c3, by omega, rfl, by go_num, ?_, hx3, hbl3, hsz3⟩
    rw [HT.out]
    simpa [u64v] using ho3
   case measure => simp [intOf]; omega
  ·obtain rfl : m = k := by omega
   have hns : (ds.take m).map Int.toNat = ds.map Int.toNat := by rw [List.take_of_length_le (by omega)]
   rw [hns] at hown
   obtain ⟨ns, hnse⟩ : ∃ ns, ns = ds.map Int.toNat := ⟨_, rfl⟩
   rw [← hnse] at hown
   have hnsl : ns.length = m := by rw [hnse, List.length_map, hdl]
   have hns64 : ∀ x ∈ ns, x < 18446744073709551616 := by
    intro x hx
    rw [hnse] at hx
    obtain ⟨y, hy, rfl⟩ := List.mem_map.1 hx
    have := H9.out y hy
    omega
   have hby := HBY.out
   rw [← hnse] at hby
   have HBY2 := Lib.hid hby
   have hrow := (Row.own hown).drew
   have hll := plist_len ns
   have hpl := (Pn.put_len n).2
   have HR := Lib.hid hrow
   have HN := Lib.hid hns64
   have hxlt := hx.lt
   have hc1 := hx.cell 1
   simp only [gE0, gE1] at hc1
   have hd1 : ∀ w2, Below wr.heap.size wr.drew w2 → w2.cell? ⟨w.heap.size, 1, none⟩ = some (.slice A2 n c) := fun w2 h => (h.cell (p := ⟨w.heap.size, 1, none⟩) hxlt).trans hc1
   have HD1 := Lib.hid hd1
   have HLL := Lib.hid hll
   have HPL := Lib.hid hpl
   have HNL := Lib.hid hnsl
   clear hns hnse hns64 hby HBY hrow hll hpl hnsl hd1 hown
   go_upto_region 9 with (fail)
   go_cut [9] (fun s wx => ∃ A3 M3 c3, s = .slice A3 M3 c3 ∧ wx.ownsRow w.heap.size 5 1 (.slice A3 M3 c3) M3 (bts (Pn.list ns ++ Pn.put n)) ∧ M3 ≤ 500 ∧ M3 ≤ c3 ∧ c3 ≤ maxLen ∧ Below wr.heap.size wr wx)
   case first =>
    go_region_with (first
     | (go_at_call 244; refine (list_any none 0 0 [] A' m cc ns _ (by omega) (by omega) Row.nil_ HR.out HN.out).mono ?_; rintro e w2 ⟨A3, M3, c3, rfl, ho3, hM3, hc3, hb3⟩; have q1 := HD1.out w2 hb3)
     | (go_at_call 200; refine (put_any _ _ _ ([] ++ Pn.list ns) n (by omega) _ (by have h1 := ho3.1; rw [bts_length, List.nil_append] at h1; have := HLL.out; have := HNL.out; omega) (Row.own ho3)).mono ?_; rintro e w3 ⟨A4, c4, rfl, ho4, hc4, hm4, hb4⟩))
    all_goals
     go_wp2_with fail
     go_meet
     refine ⟨_, _, _, rfl, own_base ho4 (Nat.le_trans hbl.size hb3.size : w.heap.size ≤ w2.heap.size), ?_, hc4, hm4, ((Below.refl wr.heap.size wr).drew.trans hb3).trans (hb4.mono hb3.size)⟩
     have h1 := ho4.1
     have h2 := HLL.out
     have h3 := HPL.out
     have h4 := HNL.out
     rw [bts_length, List.nil_append, List.length_append] at h1
     omega
   case rest =>
    obtain ⟨A3, M3, c3, rfl, ho3, hM3, hc3, hm3, hb3⟩ := hcut
    have hx3 := hx.below hb3
    have hbl3 := later_ hbl hb3
    have hsz3 : w.heap.size + 1 ≤ wc.heap.size := by have := hb3.size; omega
    clear hx hbl hb3 HD1 HR hc1 hsz HN
    have p1 := hx3.cell 1
    simp only [gE0, gE1] at p1
    go_wp2_with fail
    go_loopw [9, 40] (fun s x wr => ∃ (k : Nat) (A' : Option Addr) (M cc : Nat), k ≤ n ∧ s = .slice A' M cc ∧ x = .int .i64 (k : Int) ∧ wr.ownsRow w.heap.size 5 1 (.slice A' M cc) M (bts (Pn.list ns ++ Pn.put n ++ (fs.take k).flatMap put2)) ∧ M ≤ 500 + 20 * k ∧ M ≤ cc ∧ cc ≤ maxLen ∧
     BoxO wr 163 w.heap.size [.slice D m d, .slice A2 n c, .int .i64 (g : Int), .int .u64 (F : Int), .int .u64 (C : Int), .int .u64 (AA : Int), .int .u64 (L : Int)] ∧ Below w.heap.size w wr) (fun _ x _ => n - (intOf x).toNat)
    case atStart => exact ⟨0, A3, M3, c3, Nat.zero_le _, rfl, rfl, by simpa using ho3, by omega, hc3, hm3, hx3, hbl3⟩
    case round =>
     obtain ⟨k, A5, M5, c5, hk, rfl, rfl, ho5, hM5, hc5, hm5, hx5, hbl5⟩ := hrel
     clear ho3 hx3 hbl3 hsz3 p1
     by_cases hlt2 : k < n
     ·obtain ⟨fa, hl, rfl, hfb, f0, f1⟩ := (hra.below hbl5).file hlt2
      have hxr := H10.out fs[k] (List.getElem_mem hl)
      have htk : fs.take (k + 1) = fs.take k ++ [fs[k]] := (List.take_append_getElem hl).symm
      generalize fs[k] = x at *
      obtain ⟨x0, x1⟩ := x
      simp only at hxr f0 f1
      obtain ⟨lv, rfl⟩ : ∃ q : Nat, x0 = (q : Int) := ⟨x0.toNat, by omega⟩
      obtain ⟨nm, rfl⟩ : ∃ q : Nat, x1 = (q : Int) := ⟨x1.toNat, by omega⟩
      have HT := Lib.hid htk
      have hlw : IntKind.u64.wrap (lv : Int) = (lv : Int) := by rw [IntKind.wrap_u64]; omega
      have hnmw : IntKind.u64.wrap (nm : Int) = (nm : Int) := by rw [IntKind.wrap_u64]; omega
      have hxF := BoxO.new wr #[.int .i64 (lv : Int), .int .i64 (nm : Int)] 166
      have hrW : Row _ _ A5 M5 1 _ := ((Row.own ho5).alloc (Nat.le_refl _) (.cells #[.int .i64 (lv : Int), .int .i64 (nm : Int)] 166)).drew
      have hbA := (Below.refl wr.heap.size wr).alloc (Nat.le_refl _) (.cells #[.int .i64 (lv : Int), .int .i64 (nm : Int)] 166)
      clear htk hl ho5
      go_wp2_with fail
      change Code.wp _ _ _ _ (wr.alloc (.cells #[.int .i64 (lv : Int), .int .i64 (nm : Int)] 166))
      have hx7 := hx5.alloc (.cells #[.int .i64 (lv : Int), .int .i64 (nm : Int)] 166)
      have hbl7 := later_ hbl5 hbA
      generalize wr.alloc (.cells #[.int .i64 (lv : Int), .int .i64 (nm : Int)] 166) = V at *
      have hVlt := hxF.lt
      have v0 := hxF.cell 0
      have v1 := hxF.cell 1
      simp only [gE0, gE1] at v0 v1
      have hd : ∀ w2, Below V.heap.size V.drew w2 → w2.cell? ⟨wr.heap.size, 0, none⟩ = some (.int .i64 (lv : Int)) ∧ w2.cell? ⟨wr.heap.size, 1, none⟩ = some (.int .i64 (nm : Int)) := fun w2 h => ⟨(h.cell (p := ⟨wr.heap.size, 0, none⟩) hVlt).trans v0, (h.cell (p := ⟨wr.heap.size, 1, none⟩) hVlt).trans v1⟩
      have HD := Lib.hid hd
      have HR5 := Lib.hid (hrW.up (B' := V.drew.heap.size) (Nat.le_of_lt hVlt))
      have hl1 := (Pn.put_len lv).2
      have hl2 := (Pn.put_len nm).2
      have HL1 := Lib.hid hl1
      have HL2 := Lib.hid hl2
      clear hd hrW hbA hx5 hbl5 hl1 hl2 f0 f1
      go_region_with (first
       | (go_at_call 200; (with_reducible refine (put_any A5 M5 c5 (Pn.list ns ++ Pn.put n ++ (fs.take k).flatMap put2) lv (by omega) _ (by omega) HR5.out).mono ?_); rintro e w2 ⟨A6, c6, rfl, ho6, hc6, hm6, hb6⟩; obtain ⟨q0, q1⟩ := HD.out w2 hb6)
       | (go_at_call 200; (with_reducible refine (put_any A6 _ c6 (Pn.list ns ++ Pn.put n ++ (fs.take k).flatMap put2 ++ Pn.put lv) nm (by omega) _ (by have := HL1.out; omega) (Row.own ho6)).mono ?_); rintro e w3 ⟨A7, c7, rfl, ho7, hc7, hm7, hb7⟩))
      all_goals
       have hbe := ((Below.refl V.heap.size V).drew.trans hb6).trans (hb7.mono hb6.size)
       have hx8 := hx7.below hbe
       have hbl8 := later_ hbl7 hbe
       have ho8 := own_base (base' := w.heap.size) ho7 (Nat.le_trans hbl7.size hb6.size)
       clear hb6 hb7 hbe hx7 hbl7 ho6 ho7 hxF HR5 HD v0 v1
       go_wp2_with fail
       go_roundw
       case rel =>
        refine ⟨k + 1, A7, _, c7, by omega, rfl, by go_num, ?_, by have h1 := HL1.out; have h2 := HL2.out; omega, hc7, hm7, hx8, hbl8⟩
        rw [HT.out]
        simpa [put2, List.append_assoc] using ho8
       case measure => simp [intOf]; omega
     ·obtain rfl : n = k := by omega
      have hfs : fs.take n = fs := List.take_of_length_le (by omega)
      rw [hfs] at ho5
      have p2 := hx5.cell 2
      have p3 := hx5.cell 3
      have p4 := hx5.cell 4
      have p5 := hx5.cell 5
      have p6 := hx5.cell 6
      simp only [gE0, gE1] at p2 p3 p4 p5 p6
      have hM6 : M5 ≤ 1300 := by omega
      clear hfs hx5 hlt2 hM5
      go_wp2_with fail
      have hb5 := hbl5.alloc hbl5.size (.cells #[.int .u64 (g : Int), .int .u64 (F : Int), .int .u64 (C : Int), .int .u64 (AA : Int), .int .u64 (L : Int)] 25)
      have hrow := u64_row wr 25 #[.int .u64 (g : Int), .int .u64 (F : Int), .int .u64 (C : Int), .int .u64 (AA : Int), .int .u64 (L : Int)] [g, F, C, AA, L] 5 rfl rfl
      have ho6 := ho5.alloc (.cells #[.int .u64 (g : Int), .int .u64 (F : Int), .int .u64 (C : Int), .int .u64 (AA : Int), .int .u64 (L : Int)] 25)
      clear p2 p3 p4 p5 p6 ho5 hbl5
      change Code.wp _ _ _ _ (wr.alloc (.cells #[.int .u64 (g : Int), .int .u64 (F : Int), .int .u64 (C : Int), .int .u64 (AA : Int), .int .u64 (L : Int)] 25))
      generalize wr.alloc (.cells #[.int .u64 (g : Int), .int .u64 (F : Int), .int .u64 (C : Int), .int .u64 (AA : Int), .int .u64 (L : Int)] 25) = V at *
      generalize wr.heap.size = hp at *
      have hns : ∀ n ∈ [g, F, C, AA, L], n < 18446744073709551616 := by
       intro n hn
       simp at hn
       omega
      have hby := HBY2.out
      have hnl : [g, F, C, AA, L].length = 5 := rfl
      have HN := Lib.hid hns
      have HNL := Lib.hid hnl
      generalize hnsd : [g, F, C, AA, L] = vs at *
      have HBY3 := Lib.hid hby
      have HD := Lib.hid hnsd
      clear hns hby HBY2 hnl hnsd hgw hnw
      obtain ⟨LL, hLL⟩ : ∃ LL, LL = Pn.list ns ++ Pn.put n ++ fs.flatMap put2 := ⟨_, rfl⟩
      rw [← hLL] at ho6
      have hby4 := HBY3.out
      rw [← hLL] at hby4
      have HBY4 := Lib.hid hby4
      clear hLL hby4 HBY3
      go_loopw [9, 67] (fun s x wr3 => ∃ (k : Nat) (A' : Option Addr) (M c' : Nat), k ≤ 5 ∧ s = .slice A' M c' ∧ x = .int .i64 (k : Int) ∧ M ≤ 1300 + 10 * k ∧ wr3.ownsRow w.heap.size 5 1 (.slice A' M c') M (bts (LL ++ (vs.take k).flatMap Pn.put)) ∧ M ≤ c' ∧ c' ≤ maxLen ∧ Below V.heap.size V wr3) (fun _ x _ => 5 - (intOf x).toNat)
      case atStart => exact ⟨0, A5, M5, c5, by omega, rfl, rfl, by omega, by simpa using ho6, hc5, hm5, Below.refl _ _⟩
      case round =>
       obtain ⟨k, A', M, c', hk, rfl, rfl, hM, hown, hMc, hcm, hbV⟩ := hrel
       by_cases hlt2 : k < 5
       ·obtain ⟨aa, hl, he, hab, hc⟩ := (hrow.below hbV).un hlt2
        injection he with he
        subst he
        have hxl := HN.out vs[k] (List.getElem_mem hl)
        have htk : vs.take (k + 1) = vs.take k ++ [vs[k]] := (List.take_append_getElem hl).symm
        generalize vs[k] = x at *
        have HT := Lib.hid htk
        clear htk
        rw [base_add] at hc
        go_wp2_with fail
        refine (put_any A' M c' _ x hxl wr (by omega) (Row.own hown)).mono ?_
        rintro e w2 ⟨A3, c3, rfl, ho3, hc3, hm3, hb3⟩
        have hpl := (Pn.put_len x).2
        have ho3' := own_base ho3 (Nat.le_trans hb5.size hbV.size)
        have HPL := Lib.hid hpl
        clear hpl ho3
        go_wp2_with fail
        go_roundw
        case rel =>
         refine ⟨k + 1, A3, M + (Pn.put x).length, c3, by omega, rfl, by go_num, by have h := HPL.out; omega, ?_, hc3, hm3, later_ hbV hb3⟩
         rw [HT.out]
         simpa [List.append_assoc] using ho3'
        case measure => simp [intOf]; omega
       ·obtain rfl : k = 5 := by omega
        have hfin : LL ++ (vs.take 5).flatMap Pn.put = EB := by
         rw [List.take_of_length_le (by have := HNL.out; omega)]
         exact HBY4.out.symm
        rw [hfin] at hown
        have hbw := hb5.trans (hbV.mono hb5.size)
        have hEB := HBL.out
        clear hfin hrow ho6 hbV hb5
        have hq := Row.own hown
        clear hown
        go_wp2_with fail
        refine (fput_any A N c0 b 6 A' M c' _ wr (by omega) hNc hc ((hr.below hbw).up hbw.size) (by decide) (by decide) (by omega) hMc hcm hq).mono ?_
        rintro e w2 ⟨A3, K, c3, rfl, ho3, hc3, hm3, hb3⟩
        have ho3' := own_base ho3 hbw.size
        have hbz := later_ hbw hb3
        clear ho3 hb3
        go_wp2
        exact bodyPost_ret (v := .tuple #[.slice A3 K c3, .int .i64 0]) (by simp [results, go_sem]) rfl ⟨A3, K, c3, rfl, ho3', hc3, hm3, hbz⟩
end
section
open Go Go.RowKit Go.Shelf
variable {P : Sl} {m : Nat} {X X1 : Dw} {w w1 w2 : World} {S S1 : Sd} {M M1 : Gs}
theorem grewrite_any (nm : ByteArray) (hnm : nm.size ≤ 1000) (hv : M.v.ok = true) (hld : S.load ≤ 1000000000000) (h0 : Gst P m X w S M w X) :
  Calls Tryz.prog 145 #[.pointer (some ⟨m, 0, none⟩), .string nm] w (GLeft P m X w (Gw.rewrite S M nm.data.toList)) := by
 have hmk := h0.man
 have c0 := hmk.cell 0
 have c2 := hmk.cell 2
 have c3 := hmk.cell 3
 have c4 := hmk.cell 4
 have c5 := hmk.cell 5
 have c6 := hmk.cell 6
 have c7 := hmk.cell 7
 simp only [Gs.cells, gE0, gE1] at c0 c2 c3 c4 c5 c6 c7
 obtain ⟨R, hR⟩ : ∃ R, R = Gw.rewrite S M nm.data.toList := ⟨_, rfl⟩
 rw [← hR]
 have hrl := Ed.rec_len (Vw.whole_may hv)
 have hput := fun A n c W hr => eput_gen none 0 0 [] M.v.whole none 0 0 A n c W (Vw.whole_may hv) Row.nil_ hr (by omega) (by omega) (by unfold maxLen; omega) Row.nil_
 have hwh := whole_gen M.v P.a P.n P.c w (by have := h0.row.nb; omega) h0.row.row
 have hRR : R = if (S.write nm.data.toList M.v.whole.rec_).2 ≠ 0 then ((S.write nm.data.toList M.v.whole.rec_).1, M, (S.write nm.data.toList M.v.whole.rec_).2) else Gw.tmp (S.write nm.data.toList M.v.whole.rec_).1 M nm.data.toList := hR
 have hrec : ([] : List UInt8) ++ M.v.whole.rec_ = M.v.whole.rec_ := rfl
 rw [hrec] at hput
 unfold Vw.val at hwh
 unfold Ed.val at hwh hput
 have HR := Lib.hid hRR
 have HP := Lib.hid hput
 clear hR hput hRR hrec
 go_enter Tryz.func145, Tryz.ntmps145
 go_wp2_with fail
 refine hwh.mono ?_
 rintro e w1 ⟨A1, n1c, rfl, hfr, hb1⟩
 have h1 := h0.below hb1
 have hput := HP.out A1 P.n n1c w1 hfr.row
 clear hwh hfr HP
 go_wp2_with fail
 refine hput.mono ?_
 rintro e w2 ⟨A, K, c, rfl, hown, hKc, hcm, hb2⟩
 have h2 := h1.below hb2
 have hrow := Row.own hown
 have hKl : K ≤ 1099511627776 := by
  have e1 := hrow.btlen
  omega
 have hA : ∀ a, A = some a → a.block ∉ X.foot := fun a ha hm => by
  obtain ⟨A', c', e, _, _, h6⟩ := own_form hown
  injection e with e _ _
  have h7 := (h6 a (by rw [← e]; exact ha)).1
  have h8 := h1.acc.dm.dk.lt _ hm
  omega
 have hwr := h2.write nm (by unfold maxLen; omega) A K c M.v.whole.rec_ hKl (by omega) hrow hA
 have hld1 := Sd.write_load S nm.data.toList M.v.whole.rec_
 have HWR := Lib.hid hwr
 have HST : R = if (S.write nm.data.toList M.v.whole.rec_).2 ≠ 0 then ((S.write nm.data.toList M.v.whole.rec_).1, M, (S.write nm.data.toList M.v.whole.rec_).2) else Gw.tmp (S.write nm.data.toList M.v.whole.rec_).1 M nm.data.toList := HR.out
 clear hwr HR hput hA hown hrow hb1 hb2
 generalize S.write nm.data.toList M.v.whole.rec_ = PP at *
 obtain ⟨S1, e1⟩ := PP
 simp only at HST hld1
 have HS := Lib.hid HST
 clear HST
 go_wp2_with fail
 refine HWR.out.mono ?_
 rintro e w3 ⟨rfl, X3, h3⟩
 by_cases q1 : e1 = 0
 case neg =>
  have hne := neq0 q1
  have hh := HS.out
  rw [if_pos q1] at hh
  have hl := Lib.hid (GLeft.mk_ hh h3)
  clear hh
  go_wp2
  go_ret
  exact hl.out
 subst q1
 have HS2 : Hid (R = Gw.tmp S1 M nm.data.toList) := HS.out.trans (if_neg (by simp))
 have hrd := h3.read sTemp (by decide)
 rw [sTemp_list] at hrd
 unfold sTemp at hrd
 have HRD := Lib.hid hrd
 clear hrd HS HWR
 go_wp2_with fail
 refine HRD.out.mono ?_
 rintro e w4 ⟨A4, c4, rfl, hb4⟩
 have h4 := h3.below hb4
 clear HRD hb4
 generalize hE : (S1.read Mw.kTemp).2 = er2
 generalize (S1.read Mw.kTemp).1.length = ln2
 have HE := Lib.hid hE
 clear hE
 go_upto_if 53 with (fail)
 go_cut [] (fun wx => ∃ S2 X2, Gst P m X w S2 M wx X2 ∧ Hid (R = Gw.hd S2 M nm.data.toList) ∧ S2.load ≤ S.load + 3)
 case first =>
  by_cases q2 : er2 = 0
  ·subst q2
   have hrm := h4.remove sTemp (by decide) (by omega)
   rw [sTemp_list] at hrm
   unfold sTemp at hrm
   have hl2 := Sd.remove_load S1 Mw.kTemp
   have HT : R = if (S1.remove Mw.kTemp).2 ≠ 0 then ((S1.remove Mw.kTemp).1, M, (S1.remove Mw.kTemp).2) else Gw.hd (S1.remove Mw.kTemp).1 M nm.data.toList := HS2.out.trans (if_pos HE.out)
   generalize S1.remove Mw.kTemp = PP at *
   obtain ⟨S2, e2⟩ := PP
   simp only at HT hl2
   have HRM := Lib.hid hrm
   have HT2 := Lib.hid HT
   clear hrm HT
   go_wp2_with fail
   refine HRM.out.mono ?_
   rintro e w5 ⟨rfl, X5, h5⟩
   by_cases q3 : e2 = 0
   ·subst q3
    have HT3 : Hid (R = Gw.hd S2 M nm.data.toList) := HT2.out.trans (if_neg (by simp))
    go_wp2_with fail
    go_meet
    case rel => exact ⟨S2, X5, h5, HT3, by omega⟩
   ·have hne := neq0 q3
    have hh := HT2.out
    rw [if_pos q3] at hh
    have hl := Lib.hid (GLeft.mk_ hh h5)
    clear hh
    go_wp2
    go_ret
    exact hl.out
  ·have q3 : (((er2 : Int)) == 0) = false := by simp [q2]
   have HT3 : Hid (R = Gw.hd S1 M nm.data.toList) := HS2.out.trans (if_neg (by rw [HE.out]; exact q2))
   go_wp2_with fail
   go_meet
   case rel => exact ⟨S1, X3, h4, HT3, by omega⟩
 case rest =>
  obtain ⟨S2, X5, h5, HT3, hl3⟩ := hcut
  clear h4 HS2 HE h3 h2 h1 hld1
  have hnum := number_any nm sMan (by omega) (by decide) wc h5.acc.dm.env
  rw [sMan_list, numV_eq] at hnum
  obtain ⟨k, hk, hk2⟩ := number_range nm.data.toList
  rw [hk] at hnum
  have HK := Lib.hid hk
  unfold sMan at hnum
  have HN := Lib.hid hnum
  clear hnum hk
  go_wp2_with fail
  refine HN.out.mono ?_
  rintro e w6 ⟨rfl, hb6⟩
  have h6 := h5.below hb6
  have hp := put_any none 0 0 [] k (by omega) w6 (by omega) Row.nil_
  simp only [Nat.zero_add, List.nil_append] at hp
  clear HN h5 hb6
  go_wp2_with fail
  refine hp.mono ?_
  rintro e w7 ⟨A7, c7', rfl, hown7, hc7, hm7, hb7⟩
  have h7 := h6.below hb7
  have hpl := Pn.put_len k
  have hf := fput_any none 0 0 [] 8 A7 (Pn.put k).length c7' (Pn.put k) w7 (by omega) (by omega) (by unfold maxLen; omega) Row.nil_ (by omega) (by omega) (by omega) hc7 hm7 (Row.own hown7)
  rw [show ((8 : Nat) : Int) = 8 from rfl] at hf
  simp only [List.nil_append] at hf
  clear hp hown7
  go_wp2_with fail
  refine hf.mono ?_
  rintro e w8 ⟨A8, K8, c8, rfl, hown8, hK8, hm8, hb8⟩
  have h8 := h7.below hb8
  have hhead : Fr.put 8 (Pn.put k) = Mw.headB ((Mn.number nm.data.toList Mn.kMan).getD 0) := by
   rw [HK.out]
   rfl
  rw [hhead] at hown8
  have hrow8 := Row.own hown8
  have hKl : K8 ≤ 1099511627776 := by
   have e1 := hrow8.btlen
   have := headB_len ((Mn.number nm.data.toList Mn.kMan).getD 0)
   omega
  have hA : ∀ a, A8 = some a → a.block ∉ X5.foot := fun a ha hm => by
   obtain ⟨A', c', e, _, _, h6⟩ := own_form hown8
   injection e with e _ _
   have h9 := (h6 a (by rw [← e]; exact ha)).1
   have h10 := h7.acc.dm.dk.lt _ hm
   omega
  have hwr := h8.write sTemp (by decide) A8 K8 c8 _ hKl (by omega) hrow8 hA
  rw [sTemp_list] at hwr
  unfold sTemp at hwr
  have hl4 := Sd.write_load S2 Mw.kTemp (Mw.headB ((Mn.number nm.data.toList Mn.kMan).getD 0))
  have HT4 : R = if (S2.write Mw.kTemp (Mw.headB ((Mn.number nm.data.toList Mn.kMan).getD 0))).2 ≠ 0 then ((S2.write Mw.kTemp (Mw.headB ((Mn.number nm.data.toList Mn.kMan).getD 0))).1, M, (S2.write Mw.kTemp (Mw.headB ((Mn.number nm.data.toList Mn.kMan).getD 0))).2)
   else Gw.sd1 (S2.write Mw.kTemp (Mw.headB ((Mn.number nm.data.toList Mn.kMan).getD 0))).1 M nm.data.toList := HT3.out
  generalize S2.write Mw.kTemp (Mw.headB ((Mn.number nm.data.toList Mn.kMan).getD 0)) = PP at *
  obtain ⟨S3, e3⟩ := PP
  simp only at HT4 hl4
  have HWR := Lib.hid hwr
  have HS4 := Lib.hid HT4
  clear hwr HT4 hown8 hrow8 hA hhead hf hKl HT3 hb7 hb8 h7 h6
  go_wp2_with fail
  refine HWR.out.mono ?_
  rintro e w9 ⟨rfl, X9, h9⟩
  by_cases q3 : e3 = 0
  case neg =>
   have hne := neq0 q3
   have hh := HS4.out
   rw [if_pos q3] at hh
   have hl := Lib.hid (GLeft.mk_ hh h9)
   clear hh
   go_wp2
   go_ret
   exact hl.out
  subst q3
  have HS5 : Hid (R = Gw.sd1 S3 M nm.data.toList) := HS4.out.trans (if_neg (by simp))
  have hsd := h9.syncDir
  have hl5 := Sd.syncDir_load S3
  have HT5 : R = if (S3.syncDir).2 ≠ 0 then ((S3.syncDir).1, M, (S3.syncDir).2) else Gw.ren (S3.syncDir).1 M nm.data.toList := HS5.out
  generalize S3.syncDir = PP at *
  obtain ⟨S4, e4⟩ := PP
  simp only at HT5 hl5
  have HSD := Lib.hid hsd
  have HS6 := Lib.hid HT5
  clear hsd HT5 HS5 HS4 HWR h8
  go_wp2_with fail
  refine HSD.out.mono ?_
  rintro e w10 ⟨rfl, X10, h10⟩
  by_cases q4 : e4 = 0
  case neg =>
   have hne := neq0 q4
   have hh := HS6.out
   rw [if_pos q4] at hh
   have hl := Lib.hid (GLeft.mk_ hh h10)
   clear hh
   go_wp2
   go_ret
   exact hl.out
  subst q4
  have HS7 : Hid (R = Gw.ren S4 M nm.data.toList) := HS6.out.trans (if_neg (by simp))
  have hrn := h10.rename sTemp sCur (by decide) (by decide) (by omega)
  rw [sTemp_list, sCur_list] at hrn
  unfold sTemp sCur at hrn
  have hl6 := Sd.rename_load S4 Mw.kTemp Mw.kCur
  have HT6 : R = if (S4.rename Mw.kTemp Mw.kCur).2 ≠ 0 then ((S4.rename Mw.kTemp Mw.kCur).1, M, (S4.rename Mw.kTemp Mw.kCur).2) else Gw.fin (S4.rename Mw.kTemp Mw.kCur).1 M nm.data.toList := HS7.out
  generalize S4.rename Mw.kTemp Mw.kCur = PP at *
  obtain ⟨S5, e5⟩ := PP
  simp only at HT6 hl6
  have HRN := Lib.hid hrn
  have HS8 := Lib.hid HT6
  clear hrn HT6 HS7 HS6 HSD h9
  go_wp2_with fail
  refine HRN.out.mono ?_
  rintro e w11 ⟨rfl, X11, h11⟩
  by_cases q5 : e5 = 0
  case neg =>
   have hne := neq0 q5
   have hh := HS8.out
   rw [if_pos q5] at hh
   have hl := Lib.hid (GLeft.mk_ hh h11)
   clear hh
   go_wp2
   go_ret
   exact hl.out
  subst q5
  have HS9 : Hid (R = Gw.fin S5 M nm.data.toList) := HS8.out.trans (if_neg (by simp))
  have f1 := h11.man.free 1
  have f8 := h11.man.free 8
  have d1 := h11.man.cell 1
  have d8 := h11.man.cell 8
  simp only [Gs.cells, gE0, gE1] at d1 d8
  have hmk2 : GK ((w11.setCell ⟨m, 1, none⟩ (.string nm)).setCell ⟨m, 8, none⟩ (.int .i64 1)) m X.d { M with name := nm.data.toList, count := 1 } P := by
   have h12 := (h11.man.store 1 (.string nm)).store 8 (.int .i64 1)
   unfold GK Gs.cells
   simp only [str_list]
   exact h12
  have h12 := h11.turn (((Chg.refl [m] w11).setCell _ (.inl (by simp))).setCell _ (.inl (by simp))) hmk2 rfl
  have hsd2 := h12.syncDir
  have hl7 := Sd.syncDir_load S5
  have HT7 : R = if (S5.syncDir).2 ≠ 0 then ((S5.syncDir).1, { M with name := nm.data.toList, count := 1, broken := true }, (S5.syncDir).2)
   else (Mw.sweep nm.data.toList (S5.syncDir).1.list (S5.syncDir).1, { M with name := nm.data.toList, count := 1 }, 0) := HS9.out
  generalize S5.syncDir = PP at *
  obtain ⟨S6, e6⟩ := PP
  simp only at HT7 hl7
  have HSD2 := Lib.hid hsd2
  have HS10 := Lib.hid HT7
  clear hsd2 HT7 HS9 HS8 HRN h10 hmk2
  go_wp2_with fail
  refine HSD2.out.mono ?_
  rintro e w13 ⟨rfl, X13, h13⟩
  by_cases q6 : e6 = 0
  case neg =>
   have hne := neq0 q6
   have hh := HS10.out
   rw [if_pos q6] at hh
   have HH := Lib.hid hh
   clear hh d1 d8 f1 f8 h11 h12
   go_wp2_with fail
   refine h13.break_.mono ?_
   rintro e w14 ⟨rfl, h14⟩
   have hl := Lib.hid (GLeft.mk_ HH.out h14)
   go_wp2
   go_ret
   exact hl.out
  subst q6
  have HS11 : Hid (R = (Mw.sweep nm.data.toList S6.list S6, { M with name := nm.data.toList, count := 1 }, 0)) := HS10.out.trans (if_neg (by simp))
  have hli := h13.acc.list
  have hnml := list_named h13.acc.dm.wf
  have hlen := list_len h13.acc.dm.wf
  obtain ⟨L, hL⟩ : ∃ L, L = S6.list := ⟨_, rfl⟩
  rw [← hL] at hli hnml hlen HS11
  have HNM := Lib.hid hnml
  have HLI := Lib.hid hli
  clear hL hnml hli HS10 HSD2 d1 d8 f1 f8 h11 h12
  go_wp2_with fail
  refine HLI.out.mono ?_
  rintro e w14 ⟨A14, c14, rfl, hown14, hb14⟩
  have h14 := h13.below hb14
  have hcap : L.length ≤ c14 := by
   obtain ⟨A', c', e, h1, _⟩ := own_form hown14
   injection e with _ e2 e3
   omega
  have hA14 : ∀ a, A14 = some a → a.block ∉ [m] ++ X13.foot := fun a ha hm => by
   obtain ⟨A', c', e, _, _, h6⟩ := own_form hown14
   injection e with e _ _
   have h15 := (h6 a (by rw [← e]; exact ha)).1
   rcases List.mem_append.1 hm with h16 | h16
   ·have := h13.man.lt
    rw [List.mem_singleton.1 h16] at h15
    omega
   ·have := h13.acc.dm.dk.lt _ h16
    omega
  have hrow14 := Row.own hown14
  have h15 := h14.anew
  have HA := Lib.hid hA14
  clear hown14 hb14 HLI hA14 h13
  go_wp2
  go_loopw [104] (fun i wr => ∃ (j : Nat) (Sj : Sd) (Xj : Dw), j ≤ L.length ∧ i = .int .i64 (j : Int) ∧ Gst P m X13 w14 Sj { M with name := nm.data.toList, count := 1 } wr Xj ∧ Hid (Mw.sweep nm.data.toList L S6 = Mw.sweep nm.data.toList (L.drop j) Sj) ∧ Sj.load ≤ S6.load + j) (fun i _ => L.length - (intOf i).toNat)
  case atStart => exact ⟨0, S6, X13, Nat.zero_le _, rfl, h15, rfl, Nat.le_refl _⟩
  case round =>
   obtain ⟨j, Sj, Xj, hj, rfl, hMj, HSW, hlj⟩ := hrel
   by_cases hlt : j < L.length
   ·have hrow := Row.chg_not hrow14 hMj.acc.c (Nat.le_refl _) HA.out
    obtain ⟨a, hl', rfl, _, hcl⟩ := hrow.enc hlt
    have hsn := HNM.out _ (List.getElem_mem hl')
    have hsl := named_len hsn
    have hdrop : L.drop j = L[j] :: L.drop (j + 1) := List.drop_eq_getElem_cons hl'
    have hst : Mw.sweep nm.data.toList L S6 = Mw.sweep nm.data.toList (L.drop (j + 1)) (if (Mn.number L[j] Mn.kMan).isSome && !(L[j] == nm.data.toList) then (Sj.remove L[j]).1 else Sj) := by
     rw [show Mw.sweep nm.data.toList L S6 = _ from HSW.out, hdrop]
     rfl
    have HST := Lib.hid hst
    have hnum := number_any (str L[j]) sMan (by rw [str_size]; omega) (by decide) wr hMj.acc.dm.env
    rw [list_str, sMan_list, numV_eq] at hnum
    unfold sMan at hnum
    have hrem := fun w2 (hb : Below wr.heap.size wr w2) => (hMj.below hb).remove (str L[j]) (by rw [str_size]; unfold maxLen; omega) (by omega)
    have hrl := Sd.remove_load Sj L[j]
    rw [list_str] at hrem
    have hxd := h15.acc.e
    have hxe := h14.acc.e
    rw [hxe] at hrem
    have HRM := Lib.hid hrem
    have HNU := Lib.hid hnum
    have hbq : ((str L[j]).toList == nm.toList) = (L[j] == nm.data.toList) := by
     rw [ByteArray.toList_eq, ByteArray.toList_eq, list_str]
    have HBQ := Lib.hid hbq
    clear hrem hnum hst hdrop hsn hrow hxd hxe hbq
    generalize L[j] = s at *
    go_wp2_with fail
    refine HNU.out.mono ?_
    rintro e w16 ⟨rfl, hb16⟩
    cases hns : Mn.number s Mn.kMan with
    | none =>
     rw [hns] at HST
     have h17 := hMj.below hb16
     clear hns HNU HRM hcl
     go_wp2
     go_roundw
     case rel => exact ⟨j + 1, Sj, Xj, by omega, by go_num, h17, HST, by omega⟩
     case measure => simp [intOf]; omega
    | some v =>
     rw [hns] at HST
     cases hq : (s == nm.data.toList) with
     | true =>
      have q1 : ((str s).toList == nm.toList) = true := by rw [HBQ.out, hq]
      rw [hq] at HST
      have h17 := hMj.below hb16
      clear hns HNU HRM hcl hq
      go_wp2
      go_roundw
      case rel => exact ⟨j + 1, Sj, Xj, by omega, by go_num, h17, HST, by omega⟩
      case measure => simp [intOf]; omega
     | false =>
      have q1 : ((str s).toList == nm.toList) = false := by rw [HBQ.out, hq]
      rw [hq] at HST
      have hrm := HRM.out w16 hb16
      have hst2 : Mw.sweep nm.data.toList L S6 = Mw.sweep nm.data.toList (L.drop (j + 1)) (Sj.remove s).1 := HST.out
      generalize Sj.remove s = PP at *
      have HST2 := Lib.hid hst2
      have HRM2 := Lib.hid hrm
      clear hns HNU HRM hcl hq hrm hst2 HST
      go_wp2_with fail
      refine HRM2.out.mono ?_
      rintro e w17 ⟨rfl, X17, h17⟩
      go_wp2
      go_roundw
      case rel => exact ⟨j + 1, PP.1, X17, by omega, by go_num, h17, HST2, by omega⟩
      case measure => simp [intOf]; omega
   ·have e1 : L.drop j = [] := List.drop_eq_nil_of_le (by omega)
    have hR2 : R = (Sj, { M with name := nm.data.toList, count := 1 }, 0) := by
     have := HSW.out
     rw [e1] at this
     rw [show R = _ from HS11.out, this]
     rfl
    have hl := Lib.hid (GLeft.mk_ hR2 (h14.trans hMj))
    clear e1 hR2 hrow14
    go_wp2
    go_ret
    exact hl.out
end
section
open Go Go.RowKit Go.Shelf
variable {m : Nat} {X X1 : Dw} {w w1 w2 : World} {S S1 : Sd} {M M1 : Ms}
end
section
open Go Go.RowKit Go.Shelf
variable {m : Nat} {X X1 : Dw} {w w1 w2 : World} {S S1 : Sd} {M M1 : Ms}
end
section
open Go Go.RowKit Go.Shelf
variable {m : Nat} {X X1 : Dw} {w w1 w2 : World} {S S1 : Sd} {M M1 : Ms}
theorem name_le (n : Int) : (Mn.name Mn.kMan n).length ≤ 1000 := by
 by_cases hne : Mn.name Mn.kMan n = []
 ·rw [hne]; simp
 ·have := Mn.name_len hne
  omega
structure Born (X : Dw) (w : World) (S : Sd) (M : Ms) (m : Nat) (w' : World) (X' : Dw) : Prop where
 e : X'.d = X.d
 dm : Dm w' X' S
 man : MK w' m X.d M
 away : m ∉ X'.foot
 c : Chg X.foot w w'
 f : ∀ g ∈ X'.foot, g ∈ X.foot ∨ w.heap.size ≤ g
 new : w.heap.size ≤ m
end
section
open Go Go.RowKit Go.Shelf
variable {P : Sl} {m : Nat} {X X1 : Dw} {w w1 w2 : World} {S S1 : Sd} {M M1 : Gs}
theorem gmbroken_any (xd : Nat) (h : GK w m xd M P) : Calls Tryz.prog 180 #[.pointer (some ⟨m, 0, none⟩)] w fun e w' => e = .returned (.bool M.broken) ∧ w = w' := by
 have c1 := h.cell 12
 simp only [Gs.cells, gE0, gE1] at c1
 go_enter Tryz.func180, Tryz.ntmps180
 go_wp2
 go_ret
 exact ⟨rfl, rfl⟩
theorem gmview_any (xd : Nat) (h : GK w m xd M P) (hr : Row w.heap.size w P.a P.n 2 (fcells M.v.files)) (hn : P.n ≤ 10000) : Calls Tryz.prog 65 #[.pointer (some ⟨m, 0, none⟩)] w fun e w' => ∃ A c, e = .returned (M.v.val A P.n c) ∧ Fresh w.heap.size w' A P.n c M.v.files ∧ Below w.heap.size w w' := by
 have hlt := h.lt
 have h1 : GK (w.alloc (.cells #[.int .i64 0, .slice none 0 0, .int .u64 0, .int .u64 0, .int .u64 0, .int .u64 0] 134)) m xd M P := BoxO.alloc h _
 have hr1 := (hr.alloc (Nat.le_refl _) (.cells #[.int .i64 0, .slice none 0 0, .int .u64 0, .int .u64 0, .int .u64 0, .int .u64 0] 134)).up (B' := (w.alloc (.cells #[.int .i64 0, .slice none 0 0, .int .u64 0, .int .u64 0, .int .u64 0, .int .u64 0] 134)).heap.size) (by simp)
 have c2 := h1.cell 2
 have c3 := h1.cell 3
 have c4 := h1.cell 4
 have c5 := h1.cell 5
 have c6 := h1.cell 6
 have c7 := h1.cell 7
 have hbx := BoxO.new w #[.int .i64 0, .slice none 0 0, .int .u64 0, .int .u64 0, .int .u64 0, .int .u64 0] 134
 simp only [Gs.cells, gE0, gE1] at c2 c3 c4 c5 c6 c7
 have how := own_gen M.v P.a P.n P.c _ (by omega) hr1
 have hb0 : Below w.heap.size w (w.alloc (.cells #[.int .i64 0, .slice none 0 0, .int .u64 0, .int .u64 0, .int .u64 0, .int .u64 0] 134)) := (Below.refl _ _).alloc (Nat.le_refl _) _
 unfold Vw.val at *
 generalize hV : w.alloc (.cells #[.int .i64 0, .slice none 0 0, .int .u64 0, .int .u64 0, .int .u64 0, .int .u64 0] 134) = V at *
 go_enter Tryz.func65, Tryz.ntmps65
 go_wp2_with fail
 refine how.mono ?_
 rintro e w1 ⟨A1, c1, rfl, hfr, hb1⟩
 have hb2 := later_ hb0 hb1
 have hbx1 := hbx.below hb1
 have hlt1 := hbx1.lt
 have hfr1 := hfr.base hb0.size
 have f0 := hbx1.free 0
 have f1 := hbx1.free 1
 have f2 := hbx1.free 2
 have f3 := hbx1.free 3
 have f4 := hbx1.free 4
 have f5 := hbx1.free 5
 have g0 := hbx1.cell 0
 have g1 := hbx1.cell 1
 have g2 := hbx1.cell 2
 have g3 := hbx1.cell 3
 have g4 := hbx1.cell 4
 have g5 := hbx1.cell 5
 simp only [gE0, gE1] at g0 g1 g2 g3 g4 g5
 have hst := (((((hb2.setCell (p := ⟨w.heap.size, 0, none⟩) (Nat.le_refl _) (.int .i64 M.v.log)).setCell (p := ⟨w.heap.size, 1, none⟩) (Nat.le_refl _) (.slice A1 P.n c1)).setCell (p := ⟨w.heap.size, 2, none⟩) (Nat.le_refl _) (.int .u64 (M.v.floor : Int))).setCell (p := ⟨w.heap.size, 3, none⟩) (Nat.le_refl _) (.int .u64 (M.v.cert : Int))).setCell (p := ⟨w.heap.size, 4, none⟩) (Nat.le_refl _) (.int .u64 (M.v.at_ : Int))).setCell (p := ⟨w.heap.size, 5, none⟩) (Nat.le_refl _) (.int .u64 (M.v.lease : Int))
 have hcg : Chg [w.heap.size] w1 ((((((w1.setCell ⟨w.heap.size, 0, none⟩ (.int .i64 M.v.log)).setCell ⟨w.heap.size, 1, none⟩ (.slice A1 P.n c1)).setCell ⟨w.heap.size, 2, none⟩ (.int .u64 (M.v.floor : Int))).setCell ⟨w.heap.size, 3, none⟩ (.int .u64 (M.v.cert : Int))).setCell ⟨w.heap.size, 4, none⟩ (.int .u64 (M.v.at_ : Int))).setCell ⟨w.heap.size, 5, none⟩ (.int .u64 (M.v.lease : Int))) :=
  ((((((Chg.refl [w.heap.size] w1).setCell _ (.inl (by simp))).setCell _ (.inl (by simp))).setCell _ (.inl (by simp))).setCell _ (.inl (by simp))).setCell _ (.inl (by simp))).setCell _ (.inl (by simp))
 have hVs : V.heap.size = w.heap.size + 1 := by rw [← hV]; simp
 have hfr2 := hfr1.chg hcg (fun a ha hm => by have := hfr.low a ha; simp at hm; omega)
 have HS := Lib.hid hst
 have HF := Lib.hid hfr2
 clear hst hbx1 hbx hb1 hb2 hb0 how h1 c2 c3 c4 c5 c6 c7 hcg hfr hfr1 hfr2 hr1 hr hV hVs
 go_wp2
 exact bodyPost_ret (v := .agg #[.int .i64 M.v.log, .slice A1 P.n c1, .int .u64 (M.v.floor : Int), .int .u64 (M.v.cert : Int), .int .u64 (M.v.at_ : Int), .int .u64 (M.v.lease : Int)]) (by simp [results, Tryz.results65, go_sem, g0, g1, g2, g3, g4, g5]) rfl ⟨A1, c1, rfl, HF.out, HS.out⟩
end
section
open Go Go.RowKit Go.Shelf
variable {P : Sl} {m : Nat} {X X1 : Dw} {w w1 w2 : World} {S S1 : Sd} {M M1 : Gs}
structure GBorn (P : Sl) (X : Dw) (w : World) (S : Sd) (M : Gs) (m : Nat) (w' : World) (X' : Dw) : Prop where
 e : X'.d = X.d
 dm : Dm w' X' S
 man : GK w' m X.d M P
 row : Vrow w' X' m P M.v.files
 away : m ∉ X'.foot
 c : Chg X.foot w w'
 f : ∀ g ∈ X'.foot, g ∈ X.foot ∨ w.heap.size ≤ g
 new : w.heap.size ≤ m
theorem gborn_of (hb : Below w.heap.size w w1) (hm : w.heap.size ≤ m) (k : Gst P m X w1 S1 M1 w2 X1) : GBorn P X w S1 M1 m w2 X1 :=
 ⟨k.acc.e, k.acc.dm, k.man, k.row, k.away, ((Chg.of_below hb X.foot).trans k.acc.c (fun g hg => by
  rcases List.mem_append.1 hg with h1 | h1
  ·rw [List.mem_singleton.1 h1]; exact .inr hm
  ·exact .inl h1)), fun g hg => by
  rcases k.acc.f g hg with h1 | h1
  ·exact .inl h1
  ·exact .inr (Nat.le_trans hb.size h1), hm⟩
theorem gnew_any (v : Vw) (A : Option Addr) (n c : Nat) (hv : v.ok = true) (hn : n ≤ 10000) (hnc : n ≤ c) (hcm : c ≤ maxLen) (hr : Row w.heap.size w A n 2 (fcells v.files)) (hld : S.load ≤ 1000000000000) (h : Dm w X S) (R : Sd × Gs × Nat) (hR : R = Gw.rewrite S ⟨[], v, 0, false⟩ (Mn.name Mn.kMan 1)) (hR0 : R.2.2 = 0) :
  Calls Tryz.prog 129 #[.pointer (some ⟨X.d, 0, none⟩), v.val A n c] w fun e w' => ∃ P m X', e = .returned (.tuple #[.pointer (some ⟨m, 0, none⟩), .int .i64 0]) ∧ GBorn P X w R.1 R.2.1 m w' X' := by
 have HR := Lib.hid hR
 have HR0 := Lib.hid hR0
 clear hR hR0
 have hb0 : Below w.heap.size w (w.alloc (.cells #[.int .i64 v.log, .slice A n c, .int .u64 (v.floor : Int), .int .u64 (v.cert : Int), .int .u64 (v.at_ : Int), .int .u64 (v.lease : Int)] 134)) := (Below.refl _ _).alloc (Nat.le_refl _) _
 have hbx := BoxO.new w #[.int .i64 v.log, .slice A n c, .int .u64 (v.floor : Int), .int .u64 (v.cert : Int), .int .u64 (v.at_ : Int), .int .u64 (v.lease : Int)] 134
 generalize hV : w.alloc (.cells #[.int .i64 v.log, .slice A n c, .int .u64 (v.floor : Int), .int .u64 (v.cert : Int), .int .u64 (v.at_ : Int), .int .u64 (v.lease : Int)] 134) = V at *
 have hr1 := (hr.below hb0).up hb0.size
 have hok := ok_gen v A n c V (by omega) hnc hcm hr1
 rw [hv] at hok
 have how := fun W hW => own_gen v A n c W (by omega) hW
 have x0 := hbx.cell 0
 have x1 := hbx.cell 1
 have x2 := hbx.cell 2
 have x3 := hbx.cell 3
 have x4 := hbx.cell 4
 have x5 := hbx.cell 5
 simp only [gE0, gE1] at x0 x1 x2 x3 x4 x5
 unfold Vw.val at hok how ⊢
 have HOW := Lib.hid how
 clear how
 go_enter Tryz.func129, Tryz.ntmps129
 go_wp2_with fail
 refine hok.mono ?_
 rintro e w1 ⟨rfl, hb1⟩
 have hbx1 := hbx.below hb1
 have x0 := hbx1.cell 0
 have x1 := hbx1.cell 1
 have x2 := hbx1.cell 2
 have x3 := hbx1.cell 3
 have x4 := hbx1.cell 4
 have x5 := hbx1.cell 5
 simp only [gE0, gE1] at x0 x1 x2 x3 x4 x5
 have hb01 := later_ hb0 hb1
 have how := HOW.out w1 ((hr1.below hb1).up hb1.size)
 clear hok hb1 hbx hb0 HOW hr1 hr
 go_wp2_with fail
 refine how.mono ?_
 rintro e w2 ⟨A2, c2, rfl, hfr, hb2⟩
 have hb02 := later_ hb01 hb2
 have hb3 := hb02.alloc hb02.size (.cells #[.pointer (some ⟨X.d, 0, none⟩), .string ⟨#[]⟩, .int .i64 v.log, .slice A2 n c2, .int .u64 (v.floor : Int), .int .u64 (v.cert : Int), .int .u64 (v.at_ : Int), .int .u64 (v.lease : Int), .int .i64 0, .int .u32 0, .int .i32 0, .int .u32 0, .bool false] 209)
 have hmk : GK (w2.alloc (.cells #[.pointer (some ⟨X.d, 0, none⟩), .string ⟨#[]⟩, .int .i64 v.log, .slice A2 n c2, .int .u64 (v.floor : Int), .int .u64 (v.cert : Int), .int .u64 (v.at_ : Int), .int .u64 (v.lease : Int), .int .i64 0, .int .u32 0, .int .i32 0, .int .u32 0, .bool false] 209)) w2.heap.size X.d ⟨[], v, 0, false⟩ ⟨A2, n, c2⟩ := BoxO.new w2 #[.pointer (some ⟨X.d, 0, none⟩), .string ⟨#[]⟩, .int .i64 v.log, .slice A2 n c2, .int .u64 (v.floor : Int), .int .u64 (v.cert : Int), .int .u64 (v.at_ : Int), .int .u64 (v.lease : Int), .int .i64 0, .int .u32 0, .int .i32 0, .int .u32 0, .bool false] 209
 have hm1 := hb02.size
 have h3 := h.below hb3
 have hvr : Vrow (w2.alloc (.cells #[.pointer (some ⟨X.d, 0, none⟩), .string ⟨#[]⟩, .int .i64 v.log, .slice A2 n c2, .int .u64 (v.floor : Int), .int .u64 (v.cert : Int), .int .u64 (v.at_ : Int), .int .u64 (v.lease : Int), .int .i64 0, .int .u32 0, .int .i32 0, .int .u32 0, .bool false] 209)) X w2.heap.size ⟨A2, n, c2⟩ v.files := by
  refine ⟨(hfr.row.alloc (Nat.le_refl _) _).up (by simp), hfr.nc, hfr.cm, hn, fun j hj a ha => ⟨?_, fun hm => ?_⟩⟩
  ·obtain ⟨a', e, hb, _⟩ := hfr.row.cell j hj
   simp only at ha
   rw [ha] at e
   injection e with e
   subst e
   omega
  ·have h4 := hfr.low a ha
   have h5 := h.dk.lt _ hm
   have := hb01.size
   omega
 generalize hV3 : w2.alloc (.cells #[.pointer (some ⟨X.d, 0, none⟩), .string ⟨#[]⟩, .int .i64 v.log, .slice A2 n c2, .int .u64 (v.floor : Int), .int .u64 (v.cert : Int), .int .u64 (v.at_ : Int), .int .u64 (v.lease : Int), .int .i64 0, .int .u32 0, .int .i32 0, .int .u32 0, .bool false] 209) = V3 at *
 have hnm := name_any sMan (by decide) 1 (by omega) V3 h3.env
 rw [sMan_list] at hnm
 unfold sMan at hnm
 have hst : Gst ⟨A2, n, c2⟩ w2.heap.size X V3 S ⟨[], v, 0, false⟩ V3 X := Gst.start h3 hmk hvr (fun hm => by have := h.dk.lt _ hm; omega) (Nat.le_trans h.env.base hm1)
 clear how hb2 hb02 hb01 hmk hbx1 x0 x1 x2 x3 x4 x5 hvr hfr
 go_wp2_with fail
 clear hV3
 generalize w2.heap.size = m at *
 refine hnm.mono ?_
 rintro e w4 ⟨rfl, hb4⟩
 have h4 := hst.below hb4
 have hnl := name_le 1
 have hrw := grewrite_any (str (Mn.name Mn.kMan 1)) (by rw [str_size]; exact hnl) hv hld h4.anew
 rw [list_str, ← show R = _ from HR.out] at hrw
 have HRW := Lib.hid hrw
 clear hrw hnm hb4
 go_wp2_with fail
 refine HRW.out.mono ?_
 rintro e w5 ⟨rfl, P5, X5, h5, _⟩
 rw [show R.2.2 = _ from HR0.out]
 have HB := Lib.hid (gborn_of hb3 hm1 (h4.trans h5))
 clear h5 h4 hst h3 HRW
 go_wp2
 go_ret2
 exact ⟨_, _, _, rfl, HB.out⟩
end
section
open Go Go.RowKit
structure Rst (w : World) (rb : Nat) (D : Option Addr) (m : Nat) (ds : List Int) (W : World) (ec : List Value) (A : Option Addr) (N c : Nat) (l : List UInt8) (ok : Bool) : Prop where
 e : BoxO W 163 (w.heap.size + 1) ec
 res : BoxO W 163 w.heap.size [.slice none 0 0, .slice none 0 0, .int .i64 0, .int .u64 0, .int .u64 0, .int .u64 0, .int .u64 0]
 rd : BoxO W 311 rb [.slice A N c, .bool ok]
 row : Row w.heap.size W A N 1 (bts l)
 nc : N ≤ c
 nb : N ≤ 100000000
 dr : Row rb W D m 1 (icells ds)
 dl : ∀ a, D = some a → w.heap.size + 1 + 1 ≤ a.block
 bel : Below w.heap.size w W
 hi : w.heap.size + 1 + 1 ≤ rb
section
variable {w W W' : World} {rb m N c : Nat} {D A : Option Addr} {ds : List Int} {ec : List Value} {l : List UInt8} {ok : Bool}
theorem Rst.lt (h : Rst w rb D m ds W ec A N c l ok) : rb < W.heap.size := h.rd.lt
theorem Rst.drew (h : Rst w rb D m ds W ec A N c l ok) : Rst w rb D m ds W.drew ec A N c l ok := ⟨h.e.drew, h.res.drew, h.rd.drew, h.row.drew, h.nc, h.nb, h.dr.drew, h.dl, below_drew h.bel, h.hi⟩
theorem Rst.later (h : Rst w rb D m ds W ec A N c l ok) (hb : Below (rb + 1) W W') : Rst w rb D m ds W' ec A N c l ok :=
 have h1 := h.hi
 ⟨(hb.block _ (by omega)).trans h.e, (hb.block _ (by omega)).trans h.res, (hb.block _ (by omega)).trans h.rd, h.row.below (hb.mono (by omega)), h.nc, h.nb, h.dr.below (hb.mono (by omega)), h.dl, h.bel.trans (hb.mono (by omega)), h.hi⟩
theorem Rst.below (h : Rst w rb D m ds W ec A N c l ok) (hb : Below W.heap.size W W') : Rst w rb D m ds W' ec A N c l ok := h.later (hb.mono h.lt)
theorem Rst.store (h : Rst w rb D m ds W ec A N c l ok) (j : Nat) (v : Value) : Rst w rb D m ds (W.setCell ⟨w.heap.size + 1, j, none⟩ v) (ec.set j v) A N c l ok :=
 have h1 := h.hi
 have hc := chg_set W ⟨w.heap.size + 1, j, none⟩ v
 have hlt := h.lt
 ⟨h.e.store j v, h.res.chg hc (by simp), h.rd.chg hc (by simp; omega), h.row.setCell (by simp) v, h.nc, h.nb, hc.row h.dr (Nat.le_of_lt hlt) (fun a ha hm => by have := h.dl a ha; simp at hm; omega), h.dl, h.bel.setCell (by simp) v, h.hi⟩
theorem Rst.take (h : Rst w rb D m ds W ec A N c l ok) (most : Nat) (hm : most < 18446744073709551616) :
  Calls Tryz.prog 235 #[.pointer (some ⟨rb, 0, none⟩), .int .u64 (most : Int)] W fun x W' => ∃ A' N' c', x = .returned (.int .u64 ((Rd.take most (l, ok)).1 : Int)) ∧ Rst w rb D m ds W' ec A' N' c' (Rd.take most (l, ok)).2.1 (Rd.take most (l, ok)).2.2 ∧ Chg [rb] W W' := by
 have h1 := h.hi
 have h2 := h.nb
 refine (rtake_gen w.heap.size rb (by omega) A N c l ok most W (by omega) h.nc hm h.rd h.row).mono ?_
 rintro x W' ⟨A', N', c', rfl, hn1, hn2, hr, hb, hc⟩
 exact ⟨A', N', c', rfl, ⟨h.e.chg hc (by simp; omega), h.res.chg hc (by simp; omega), hb, hr, hn1, by omega, h.dr.keep (fun p hp => hc.cell (by have := h.lt; omega) (by simp; omega)), h.dl, h.bel.trans (hc.below h.bel.size (by intro q hq; simp at hq; omega)), h.hi⟩, hc⟩
end
end
section
open Go Go.RowKit
namespace Fr
end Fr
theorem Vw.app_few {v u : Vw} {e : Ed} (h : v.app e = some u) : u.files.length ≤ 40 := by
 have := Vw.app_ok h
 simp only [Vw.ok, Bool.and_eq_true, decide_eq_true_eq] at this
 omega
end
section
open Go Go.RowKit
end
section
open Go Go.RowKit
structure Ra (w : World) (ec : List Value) (cs : List Value) (A : Option Addr) (n c : Nat) (fs : List (Int × Int)) (W : World) : Prop where
 e : BoxO W 163 (w.heap.size + 1) ec
 r : BoxO W 134 (w.heap.size + 1 + 1) [.int .i64 0, .slice none 0 0, .int .u64 0, .int .u64 0, .int .u64 0, .int .u64 0]
 o : BoxO W 134 (w.heap.size + 1 + 1 + 1) cs
 row : W.ownsRow (w.heap.size + 1 + 1 + 1 + 1) 166 2 (.slice A n c) n (fcells fs)
 bel : Below w.heap.size w W
variable {w W W' : World} {ec cs : List Value} {A : Option Addr} {n c : Nat} {fs : List (Int × Int)}
theorem Ra.lt (h : Ra w ec cs A n c fs W) : w.heap.size + 1 + 1 + 1 < W.heap.size := h.o.lt
theorem Ra.below (h : Ra w ec cs A n c fs W) (hb : Below W.heap.size W W') : Ra w ec cs A n c fs W' := ⟨h.e.below hb, h.r.below hb, h.o.below hb, own_below h.row hb, later_ h.bel hb⟩
theorem Ra.store (h : Ra w ec cs A n c fs W) (j : Nat) (u : Value) : Ra w ec (cs.set j u) A n c fs (W.setCell ⟨w.heap.size + 1 + 1 + 1, j, none⟩ u) :=
 have hc := chg_set W ⟨w.heap.size + 1 + 1 + 1, j, none⟩ u
 ⟨h.e.chg hc (by simp), h.r.chg hc (by simp), h.o.store j u, own_chg h.row hc (fun g hg hm => by have := (h.row.lt g hg).1; simp at hm; omega), h.bel.setCell (by simp; omega) u⟩
end
section
open Go Go.RowKit
end
section
open Go Go.RowKit Go.ChangeShapes Go.WideShapes Go.Deep Go.Joins
section
variable {H : Type} {enc : TypeId × Value → H} {P : Program} {w : World} {base : Nat} {spare : Nat → Bool} {held : Bool}
theorem open_slice_fields {t e : TypeId} {fs : Array Field} {fuel : Nat} {cs : List Value} {x : DataW H × List MemPlace} (ht : P.underlying t = some (.slice e)) (he : P.underlying e = some (.struct fs))
  (hone : oneCellFields P fs = true) (hC : P.cellsOf e = fs.size) (h : DataW.trod enc P w base spare held fuel t cs = some x) :
  cs = [.slice none 0 0] ∨
  ∃ (a : Addr) (len cap m : Nat), cs = [.slice (some a) len cap] ∧ len ≤ cap ∧ cap ≤ maxLen ∧ m = (if spare a.block then cap else len) ∧
   ∀ i, i < m → ∃ (ys : List (DataW H × List MemPlace)) (n : Nat),
    ∀ (j : Nat) (f : Field), fs[j]? = some f → ∃ (v : Value) (y : DataW H × List MemPlace), w.cell? (a.add (i * fs.size + j)) = some v ∧ ys[j]? = some y ∧ DataW.trod enc P w base spare held n f.type [v] = some y := by
 rcases open_slice ht h with ⟨h0, _⟩ | ⟨a, len, cap, m, n, D, Pl, hcs, hb, hl, hm, hmm, hx, hi⟩
 ·exact .inl h0
 ·refine .inr ⟨a, len, cap, m, hcs, hl, hm, hmm, fun i him => ?_⟩
  obtain ⟨cs', hc, ht'⟩ := hi i him
  rw [hC] at hc
  obtain ⟨ys, n', hn', hy, hlen, hyl, hf⟩ := DataW.trod_struct he ht'
  obtain ⟨_, hcl, hat⟩ := World.cells?_some hc
  refine ⟨ys, n', fun j f hj => ?_⟩
  obtain ⟨ho, hk⟩ := hone_of hone j f hj
  have hjl : j < fs.size := (Array.getElem?_eq_some_iff.1 hj).1
  have hcell := hat j hjl
  have hv : cs'[j]? = some (cs'[j]'(by omega)) := List.getElem?_eq_getElem (by omega)
  have h1 := hf j f hj
  rw [ho, hk] at h1
  have hone' : (cs'.drop j).take 1 = [cs'[j]'(by omega)] := by
   rw [List.drop_eq_getElem_cons (by omega)]
   rfl
  rw [hone'] at h1
  have hys : ys[j]? = some (ys[j]'(by omega)) := List.getElem?_eq_getElem (by omega)
  refine ⟨_, _, ?_, hys, h1.trans hys⟩
  rw [← Go.Deep.add_add, hcell, hv]
end
theorem wfi64 {n : Int} (h : (Lit.int .i64 n).wf = true) : -9223372036854775808 ≤ n ∧ n ≤ 9223372036854775807 := by
 simp only [Lit.wf, IntKind.min, IntKind.max, IntKind.signed, IntKind.bits, Bool.and_eq_true, decide_eq_true_eq, if_true] at h
 omega
theorem wfu64 {n : Int} (h : (Lit.int .u64 n).wf = true) : ∃ u : Nat, n = (u : Int) ∧ u < 18446744073709551616 := by
 simp only [Lit.wf, IntKind.min, IntKind.max, IntKind.signed, IntKind.bits, Bool.and_eq_true, decide_eq_true_eq, Bool.false_eq_true, if_false] at h
 exact ⟨n.toNat, by omega, by omega⟩
end
end Go.Proofs.YtdkjoigpahafmaaGreatDoor
