/- Some of the texts. No conditions. -/
import Derived.Test.YtkdbagdiplpcfaaGreatDoorBunAN
import Derived.Test.YtkdbagdiplpcfaaGreatDoorBunAK

set_option linter.unusedSimpArgs false
set_option linter.unusedVariables false
set_option maxRecDepth 100000
set_option maxHeartbeats 16000000
namespace Go.Proofs.YtkdbagdiplpcfaaGreatDoor
open Go.Proofs.Tryz Go Go.RowKit Go.Lib Go.Shelf
structure Sl where
 a:Option Addr
 n:Nat
 c:Nat
def Gs.cells (M:Gs) (xd:Nat) (P:Sl):List Value:=[.pointer (some ⟨xd,0,none⟩),.string (str M.name),.int .i64 M.v.log,.slice P.a P.n P.c,.int .u64 (M.v.floor:Int),.int .u64 (M.v.cert:Int),.int .u64 (M.v.at_:Int),.int .u64 (M.v.lease:Int),.int .i64 (M.count:Int),.int .u32 (if M.broken=true then 1 else 0),.int .i32 0,.int .u32 0,.bool M.broken]
abbrev GK (w:World) (m xd:Nat) (M:Gs) (P:Sl):Prop:=BoxO w 191 m (M.cells xd P)
theorem ey4 (m O:Nat) (M:Gs) (P:Sl) (w:World) (h:GK w m O M P):Calls prog 200 #[.pointer (some ⟨m,0,none⟩)] w fun e w'=>e=.returned (.tuple #[])/\GK w' m O { M with broken:=true } P/\Chg [m] w w':=by
 have a4:∀(fn:Fn) (first cap:Array Value) (w:World),(Instr.makeFunc fn first cap).run prog w=.ok (.func fn first cap) w:=fun _ _ _ _=>rfl;have a5:=h.lt;have h1:GK (w.alloc (.cells #[.pointer (some ⟨m,0,none⟩)] 61)) m O M P:=BoxO.alloc h _;have hp:(w.alloc (.cells #[.pointer (some ⟨m,0,none⟩)] 61)).cell? ⟨w.heap.size,0,none⟩=some (.pointer (some ⟨m,0,none⟩)):=by simp
 have Q:Chg [m] w (w.alloc (.cells #[.pointer (some ⟨m,0,none⟩)] 61)):=(Chg.refl [m] w).alloc _;generalize hV:w.alloc (.cells #[.pointer (some ⟨m,0,none⟩)] 61)=V at *;have E:=h1.cell 9;have U:=h1.cell 10;have H:=h1.cell 12;simp only[Gs.cells,gE0,gE1]at E U H
 cases J:M.broken with
 |false=>
  rw[J]at E H;simp only[af_,if_false]at E;have I:=Once.do_first m ⟨w.heap.size,0,none⟩ (by simp;omega) _ V hp E U H (h1.free 9) (h1.free 10) (h1.free 12);have Z:=((((h1.store 10 (.int .i32 1)).store 12 (.bool true)).drew.store 9 (.int .u32 1)).store 10 (.int .i32 0));have a0:Chg [m] V ((((V.setCell ⟨m,10,none⟩ (.int .i32 1)).setCell ⟨m,12,none⟩ (.bool true)).drew.setCell ⟨m,9,none⟩ (.int .u32 1)).setCell ⟨m,10,none⟩ (.int .i32 0)):=(((((Chg.refl [m] V).setCell _ (.inl s_)).setCell _ (.inl s_)).drew).setCell _ (.inl s_)).setCell _ (.inl s_);have C:GK ((((V.setCell ⟨m,10,none⟩ (.int .i32 1)).setCell ⟨m,12,none⟩ (.bool true)).drew.setCell ⟨m,9,none⟩ (.int .u32 1)).setCell ⟨m,10,none⟩ (.int .i32 0)) m O { M with broken:=true } P:=Z;have HR:=H_ (c_ C (Q.trans a0 (fun g hg=>.inl hg)));clear C a0 Z J;go_enter func200,ntmps200;go_wp2_with fail;refine I.mono ?_;rintro e w2 ⟨rfl,rfl⟩;go_wp2;exact bodyPost_end (v:=.tuple #[]) (by simp[results,go_sem]) rfl ⟨rfl,HR.out⟩
 |true=>
  rw[J]at E;simp only[if_true]at E;have I:=Once.do_done ⟨m,9,none⟩ 1 o_ (.func (.func 250) #[] #[.pointer (some ⟨w.heap.size,0,none⟩)]) V E;have C:GK V m O { M with broken:=true } P:=by
   have e:({ M with broken:=true }:Gs)=M:=by cases M;simp at J;simp[J]
   rw[e];exact h1
  have HR:=H_ (c_ C Q);clear C J;go_enter func200,ntmps200;go_wp2_with fail;refine I.mono ?_;rintro e w2 ⟨rfl,a2⟩;obtain rfl:=a2.symm;go_wp2;exact bodyPost_end (v:=.tuple #[]) (by simp[results,go_sem]) rfl ⟨rfl,HR.out⟩
structure Vrow (w:World) (X:Dw) (m:Nat) (P:Sl) (fs:List (Int×Int)):Prop where
 row:Row w.heap.size w P.a P.n 2 (dw fs)
 nc:P.n<=P.c
 cm:P.c<=maxLen
 nb:P.n<=10000
 away:∀j,j < (dw fs).length->∀a,P.a=some a->a.block≠m/\a.block∉X.foot
section
variable {w w':World} {X X':Dw} {m:Nat} {P:Sl} {fs:List (Int×Int)}
theorem kz {B n size:Nat} {A:Option Addr} {xs:List Value} {F:List Nat} (h:Chg F w w') (r:Row B w A n size xs) (C:B<=w.heap.size) (hF:∀j,j < xs.length->∀a,A=some a->a.block∉F):Row B w' A n size xs:=
 ⟨r.len,fun j hj=>let ⟨a,e,b,c⟩:=r.cell j hj;⟨a,e,b,(h.cell (p:=a.add j) (by rw[add_block];omega) (by rw[add_block];exact hF j hj a e)).trans c⟩⟩
theorem Vrow.below (h:Vrow w X m P fs) (C:Below w.heap.size w w'):Vrow w' X m P fs:=⟨(h.row.below C).up C.size,h.nc,h.cm,h.nb,h.away⟩
theorem Vrow.turn (h:Vrow w X m P fs) (c:Chg [m] w w'):Vrow w' X m P fs:=⟨(kz c h.row l_ (fun j hj a C E=>(h.away j hj a C).1 (a_.1 E))).up c.size,h.nc,h.cm,h.nb,h.away⟩
theorem Vrow.step (h:Vrow w X m P fs) (c:Chg X.foot w w') (E:∀g∈X'.foot,g∈X.foot\/w.heap.size<=g):Vrow w' X' m P fs:=
 ⟨(kz c h.row l_ (fun j hj a C=>(h.away j hj a C).2)).up c.size,h.nc,h.cm,h.nb,fun j hj a C=>⟨(h.away j hj a C).1,fun H=>by
  rcases E _ H with h1|h1
  ·exact(h.away j hj a C).2 h1
  ·obtain⟨I,e,J,_⟩:=h.row.cell j hj
   rw[C]at e;injection e with e;subst e;omega⟩⟩
end
structure Gst (P:Sl) (m:Nat) (X:Dw) (w:World) (S:Sd) (M:Gs) (w':World) (X':Dw):Prop where
 acc:Acc [m] X w S w' X'
 man:GK w' m X.d M P
 row:Vrow w' X' m P M.v.files
 lt:m < w.heap.size
 out:m∉X.foot
 ng:NG<=m
variable {P P1:Sl} {m:Nat} {X X1:Dw} {w w1 w2:World} {S S1:Sd} {M M1:Gs}
theorem Gst.start (h:Dm w X S) (C:GK w m X.d M P) (E:Vrow w X m P M.v.files) (H:m∉X.foot) (I:NG<=m):Gst P m X w S M w X:=⟨Acc.start h,C,E,C.lt,H,I⟩
theorem Gst.away (h:Gst P m X w S M w1 X1):m∉X1.foot:=fun C=>by
 rcases h.acc.f m C with h1|h1
 ·exact h.out h1
 ·have:=h.lt
  omega
theorem Gst.below (h:Gst P m X w S M w1 X1) (C:Below w1.heap.size w1 w2):Gst P m X w S M w2 X1:=⟨h.acc.below C,h.man.below C,h.row.below C,h.lt,h.out,h.ng⟩
theorem Gst.step (h:Gst P m X w S M w1 X1) (I:UpdM X1 w1 w2 S1):∃X2,Gst P m X w S1 M w2 X2:=by
 obtain⟨X2,e,hd,C,H⟩:=I;refine⟨X2,⟨e.trans h.acc.e,hd,h.acc.c.trans C (fun g E=>?_),fun g E=>?_⟩,h.man.chg C h.away,h.row.step C H,h.lt,h.out,h.ng⟩
 ·rcases h.acc.f g E with h1|h1
  ·exact .inl (p_ _ h1)
  ·exact .inr h1
 ·rcases H g E with h1|h1
  ·exact h.acc.f g h1
  ·exact .inr (j_ h.acc.c.size h1)
theorem Gst.turn (h:Gst P m X w S M w1 X1) (c:Chg [m] w1 w2) (C:GK w2 m X.d M1 P) (E:M1.v=M.v):Gst P m X w S M1 w2 X1:=
 ⟨h.acc.other c (fun g H=>by rw[a_.1 H];exact⟨by simp,h.lt,h.out,h.ng⟩),C,by rw[E];exact h.row.turn c,h.lt,h.out,h.ng⟩
theorem Gst.read (h:Gst P m X w S M w1 X1) (s:ByteArray) (hs:s.size<=maxLen):
  Calls prog 109 #[.pointer (some ⟨X.d,0,none⟩),.string s] w1 fun e w'=>∃A c,e=.returned (.tuple #[.slice A (S.read s.data.toList).1.length c,.int .i64 ((S.read s.data.toList).2:Int)])/\Below w1.heap.size w1 w':=
 (h.acc.read s hs).mono fun _ _ ⟨A,c,h1,_,h2⟩=>⟨A,c,h1,h2⟩
theorem Gst.write (h:Gst P m X w S M w1 X1) (s:ByteArray) (hs:s.size<=maxLen) (A:Option Addr) (k c:Nat) (b:List UInt8) (C:k<=1099511627776) (E:S.load<=1099511627776) (H:Row w1.heap.size w1 A k 1 (bts b)) (I:∀a,A=some a->a.block∉X1.foot):
  Calls prog 196 #[.pointer (some ⟨X.d,0,none⟩),.string s,.slice A k c] w1 fun e w'=>e=.returned (.int .i64 ((S.write s.data.toList b).2:Int))/\∃X2,Gst P m X w (S.write s.data.toList b).1 M w' X2:=by
 rw[<-h.acc.e];exact(write_any X1 S s hs A k c b C E w1 h.acc.dm H I).mono fun _ _ ⟨h1,h2⟩=>⟨h1,h.step h2⟩
theorem Gst.append (h:Gst P m X w S M w1 X1) (s:ByteArray) (hs:s.size<=maxLen) (A:Option Addr) (k c:Nat) (b:List UInt8) (C:k<=1099511627776) (E:Row w1.heap.size w1 A k 1 (bts b)) (H:∀a,A=some a->a.block∉X1.foot):
  Calls prog 136 #[.pointer (some ⟨X.d,0,none⟩),.string s,.slice A k c] w1 fun e w'=>e=.returned (.int .i64 ((S.append s.data.toList b).2:Int))/\∃X2,Gst P m X w (S.append s.data.toList b).1 M w' X2:=by
 rw[<-h.acc.e];exact(zq1 X1 S s hs A k c b C h.acc.dm.wf w1 h.acc.dm.dk E (fun a I e=>H a I (by rw[e];exact aj.2 (.inl rfl)))).mono fun _ _ ⟨h1,h2⟩=>⟨h1,h.step (h.acc.dm.upd (h.acc.dm.wf.append _ _) h2)⟩
theorem Gst.sync (h:Gst P m X w S M w1 X1) (s:ByteArray) (hs:s.size<=maxLen):
  Calls prog 142 #[.pointer (some ⟨X.d,0,none⟩),.string s] w1 fun e w'=>e=.returned (.int .i64 ((S.sync s.data.toList).2:Int))/\∃X2,Gst P m X w (S.sync s.data.toList).1 M w' X2:=by
 rw[<-h.acc.e];exact(sync_any X1 S s hs h.acc.dm.wf w1 h.acc.dm.dk).mono fun _ _ ⟨h1,h2⟩=>⟨h1,h.step (h.acc.dm.upd (h.acc.dm.wf.sync _) h2)⟩
theorem Gst.remove (h:Gst P m X w S M w1 X1) (s:ByteArray) (hs:s.size<=maxLen) (C:S.load<=1099511627776):
  Calls prog 66 #[.pointer (some ⟨X.d,0,none⟩),.string s] w1 fun e w'=>e=.returned (.int .i64 ((S.remove s.data.toList).2:Int))/\∃X2,Gst P m X w (S.remove s.data.toList).1 M w' X2:=by
 rw[<-h.acc.e];exact(mw2 X1 S s hs h.acc.dm.wf C w1 h.acc.dm.dk).mono fun _ _ ⟨h1,h2⟩=>⟨h1,h.step (h.acc.dm.upd (h.acc.dm.wf.remove _) h2)⟩
theorem Gst.rename (h:Gst P m X w S M w1 X1) (s u:ByteArray) (hs:s.size<=maxLen) (C:u.size<=maxLen) (E:S.load<=1099511627776):
  Calls prog 199 #[.pointer (some ⟨X.d,0,none⟩),.string s,.string u] w1 fun e w'=>e=.returned (.int .i64 ((S.rename s.data.toList u.data.toList).2:Int))/\∃X2,Gst P m X w (S.rename s.data.toList u.data.toList).1 M w' X2:=by
 rw[<-h.acc.e];exact(cw4 X1 S s u hs C h.acc.dm.wf E w1 h.acc.dm.dk).mono fun _ _ ⟨h1,h2⟩=>⟨h1,h.step (h.acc.dm.upd (h.acc.dm.wf.rename _ _) h2)⟩
theorem Gst.ax (h:Gst P m X w S M w1 X1):
  Calls prog 143 #[.pointer (some ⟨X.d,0,none⟩)] w1 fun e w'=>e=.returned (.int .i64 ((S.ax).2:Int))/\∃X2,Gst P m X w (S.ax).1 M w' X2:=by
 rw[<-h.acc.e];exact(ev2 X1 S h.acc.dm.wf w1 h.acc.dm.dk).mono fun _ _ ⟨h1,h2⟩=>⟨h1,h.step (h.acc.dm.upd h.acc.dm.wf.ax h2)⟩
theorem Gst.nj5 (h:Gst P m X w S M w1 X1):Calls prog 200 #[.pointer (some ⟨m,0,none⟩)] w1 fun e w'=>e=.returned (.tuple #[])/\Gst P m X w S { M with broken:=true } w' X1:=
 (ey4 m X.d M P w1 h.man).mono fun _ _ ⟨h1,h2,h3⟩=>⟨h1,h.turn h3 h2 rfl⟩
theorem Gst.trans {X2:Dw} {S2:Sd} {E:Gs} (h:Gst P m X w S M w1 X1) (k:Gst P1 m X1 w1 S2 E w2 X2):Gst P1 m X w S2 E w2 X2:=by
 refine⟨⟨k.acc.e.trans h.acc.e,k.acc.dm,h.acc.c.trans k.acc.c (fun g C=>?_),fun g C=>?_⟩,by rw[<-h.acc.e];exact k.man,k.row,h.lt,h.out,h.ng⟩
 ·rcases k_.1 C with h1|h1
  ·exact .inl (x_ _ h1)
  ·rcases h.acc.f g h1 with h2|h2
   ·exact .inl (p_ _ h2)
   ·exact .inr h2
 ·rcases k.acc.f g C with h1|h1
  ·exact h.acc.f g h1
  ·exact .inr (j_ h.acc.c.size h1)
theorem Gst.anew (h:Gst P m X w S M w1 X1):Gst P m X1 w1 S M w1 X1:=Gst.start h.acc.dm (by rw[h.acc.e];exact h.man) h.row h.away h.ng
def ix1 (P:Sl) (m:Nat) (X:Dw) (w:World) (R:Sd×Gs×Nat) (e:Ending) (w':World):Prop:=e=.returned (.int .i64 (R.2.2:Int))/\∃P' X',Gst P' m X w R.1 R.2.1 w' X'/\(P'=P\/∀a,P'.a=some a->w.heap.size<=a.block)
theorem ix1.mk_ {S2:Sd} {C:Gs} {E:Nat} {R:Sd×Gs×Nat} (H:R=(S2,C,E)) {X2:Dw} (h:Gst P m X w S2 C w1 X2):ix1 P m X w R (.returned (.int .i64 (E:Int))) w1:=by
 subst H;exact⟨rfl,P,X2,h,.inl rfl⟩
theorem ix1.mkN {S2:Sd} {C:Gs} {E:Nat} {R:Sd×Gs×Nat} {P0:Sl} (H:R=(S2,C,E)) {X2:Dw} (h:Gst P m X w S2 C w1 X2) (I:∀a,P.a=some a->w.heap.size<=a.block):ix1 P0 m X w R (.returned (.int .i64 (E:Int))) w1:=by
 subst H;exact⟨rfl,P,X2,h,.inr I⟩
section
variable {P:Sl} {m:Nat} {X X1:Dw} {w w1 w2:World} {S S1:Sd} {M M1:Gs}
theorem ix3 (nm:ByteArray) (q':nm.size<=1000) (hv:M.v.ok=true) (r0:S.load<=1000000000000) (h0:Gst P m X w S M w X):
  Calls prog 131 #[.pointer (some ⟨m,0,none⟩),.string nm] w (ix1 P m X w (Gw.rewrite S M nm.data.toList)):=by
 have Z:=h0.man;have c0:=Z.cell 0;have c2:=Z.cell 2;have c3:=Z.cell 3;have c4:=Z.cell 4;have c5:=Z.cell 5;have c6:=Z.cell 6;have c7:=Z.cell 7;simp only[Gs.cells,gE0,gE1]at c0 c2 c3 c4 c5 c6 c7;obtain⟨R,hR⟩:=n_ (Gw.rewrite S M nm.data.toList);rw[<-hR];have m7:=Ed.wy2 (Vw.fx2 hv);have I:=fun A n c W hr=>pw3 none 0 0 [] M.v.whole none 0 0 A n c W (Vw.fx2 hv) Row.nil_ hr o_ o_ (by unfold maxLen;omega) Row.nil_;have d4:=qz4 M.v P.a P.n P.c w (by have:=h0.row.nb;omega) h0.row.row;have i':R=if (S.write nm.data.toList M.v.whole.rec_).2≠0 then ((S.write nm.data.toList M.v.whole.rec_).1,M,(S.write nm.data.toList M.v.whole.rec_).2) else Gw.tmp (S.write nm.data.toList M.v.whole.rec_).1 M nm.data.toList:=hR
 have e9:([]:List UInt8)++M.v.whole.rec_=M.v.whole.rec_:=rfl;rw[e9]at I;unfold Vw.val at d4;unfold Ed.val at d4 I;have HR:=H_ i';have HP:=H_ I;clear hR I i' e9;go_enter func131,ntmps131;go_wp2_with fail;refine d4.mono ?_;rintro e w1 ⟨A1,m8,rfl,j0,j1⟩;have h1:=h0.below j1;have I:=HP.out A1 P.n m8 w1 j0.row;clear d4 j0 HP;go_wp2_with fail;refine I.mono ?_;rintro e w2 ⟨A,K,c,rfl,b1,r5,r6,j2⟩;have h2:=h1.below j2;have hrow:=Row.own b1;have d5:K<=1099511627776:=by
  have e1:=hrow.zk;omega
 have hA:∀a,A=some a->a.block∉X.foot:=fun a ha hm=>by
  obtain⟨A',c',e,_,_,h6⟩:=gz b1;injection e with e _ _;have h7:=(h6 a (by rw[<-e];exact ha)).1;have h8:=h1.acc.dm.dk.lt _ hm;omega
 have a0:=h2.write nm (by unfold maxLen;omega) A K c M.v.whole.rec_ d5 o_ hrow hA;have f5:=Sd.aq1 S nm.data.toList M.v.whole.rec_;have b2:=H_ a0;have E:R=if (S.write nm.data.toList M.v.whole.rec_).2≠0 then ((S.write nm.data.toList M.v.whole.rec_).1,M,(S.write nm.data.toList M.v.whole.rec_).2) else Gw.tmp (S.write nm.data.toList M.v.whole.rec_).1 M nm.data.toList:=HR.out
 clear a0 HR I hA b1 hrow j1 j2;generalize S.write nm.data.toList M.v.whole.rec_=PP at *;obtain⟨S1,e1⟩:=PP;simp only at E f5;have HS:=H_ E;clear E;go_wp2_with fail;refine b2.out.mono ?_;rintro e w3 ⟨rfl,X3,h3⟩
 by_cases q1:e1=0
 case neg=>
  have b3:=neq0 q1;have J:=HS.out;rw[if_pos q1]at J;have hl:=H_ (ix1.mk_ J h3);clear J;go_wp2;go_ret;exact hl.out
 subst q1;have g6:Hid (R=Gw.tmp S1 M nm.data.toList):=HS.out.trans (if_neg s_);have d6:=h3.read tx2 (by decide);rw[py1]at d6;unfold tx2 at d6;have j6:=H_ d6;clear d6 HS b2;go_wp2_with fail;refine j6.out.mono ?_;rintro e w4 ⟨A4,c4,rfl,j7⟩;have h4:=h3.below j7;clear j6 j7;generalize hE:(S1.read Mw.jw).2=j8;generalize (S1.read Mw.jw).1.length=r8;have HE:=H_ hE;clear hE;go_upto_if 53 with (fail)
 go_cut [] (fun wx=>∃S2 X2,Gst P m X w S2 M wx X2/\Hid (R=Gw.hd S2 M nm.data.toList)/\S2.load<=S.load+3)
 case first=>
  by_cases q2:j8=0
  ·subst q2
   have a1:=h4.remove tx2 (by decide) o_;rw[py1]at a1;unfold tx2 at a1;have n3:=Sd.cx1 S1 Mw.jw;have HT:R=if (S1.remove Mw.jw).2≠0 then ((S1.remove Mw.jw).1,M,(S1.remove Mw.jw).2) else Gw.hd (S1.remove Mw.jw).1 M nm.data.toList:=g6.out.trans (if_pos HE.out)
   generalize S1.remove Mw.jw=PP at *;obtain⟨S2,e2⟩:=PP;simp only at HT n3;have a8:=H_ a1;have j9:=H_ HT;clear a1 HT;go_wp2_with fail;refine a8.out.mono ?_;rintro e w5 ⟨rfl,X5,h5⟩
   by_cases q3:e2=0
   ·subst q3
    have a9:Hid (R=Gw.hd S2 M nm.data.toList):=j9.out.trans (if_neg s_);go_wp2_with fail
    go_meet
    case rel=>exact⟨S2,X5,h5,a9,o_⟩
   ·have b3:=neq0 q3
    have J:=j9.out;rw[if_pos q3]at J;have hl:=H_ (ix1.mk_ J h5);clear J;go_wp2;go_ret;exact hl.out
  ·have q3:(((j8:Int))==0)=false:=by simp[q2]
   have a9:Hid (R=Gw.hd S1 M nm.data.toList):=g6.out.trans (if_neg (by rw[HE.out];exact q2));go_wp2_with fail
   go_meet
   case rel=>exact⟨S1,X3,h4,a9,o_⟩
 case rest=>
  obtain⟨S2,X5,h5,a9,r9⟩:=hcut;clear h4 g6 HE h3 h2 h1 f5;have C:=px1 nm sMan o_ (by decide) wc h5.acc.dm.env;rw[gk2,jq4]at C;obtain⟨k,hk,r'⟩:=ez3 nm.data.toList;rw[hk]at C;have HK:=H_ hk;unfold sMan at C;have HN:=H_ C;clear C hk;go_wp2_with fail;refine HN.out.mono ?_;rintro e w6 ⟨rfl,j'⟩;have h6:=h5.below j';have hp:=put_any none 0 0 [] k o_ w6 o_ Row.nil_;simp only[an_,C_]at hp;clear HN h5 j';go_wp2_with fail;refine hp.mono ?_;rintro e w7 ⟨A7,n8,rfl,b5,n9,n',k0⟩;have h7:=h6.below k0;have s4:=Pn.jq k;have hf:=lk1 none 0 0 [] 8 A7 (Pn.put k).length n8 (Pn.put k) w7 o_ o_ (by unfold maxLen;omega) Row.nil_ o_ o_ o_ n9 n' (Row.own b5);rw[show ((8:Nat):Int)=8 from rfl]at hf;simp only[C_]at hf;clear hp b5;go_wp2_with fail;refine hf.mono ?_;rintro e w8 ⟨A8,K8,c8,rfl,O,s5,s6,k1⟩;have h8:=h7.below k1;have b6:Fr.put 8 (Pn.put k)=Mw.headB ((Mn.number nm.data.toList Mn.kMan).getD 0):=by
   rw[HK.out];rfl
  rw[b6]at O;have a2:=Row.own O;have d5:K8<=1099511627776:=by
   have e1:=a2.zk;have:=cv3 ((Mn.number nm.data.toList Mn.kMan).getD 0);omega
  have hA:∀a,A8=some a->a.block∉X5.foot:=fun a ha hm=>by
   obtain⟨A',c',e,_,_,h6⟩:=gz O;injection e with e _ _;have h9:=(h6 a (by rw[<-e];exact ha)).1;have d7:=h7.acc.dm.dk.lt _ hm;omega
  have a0:=h8.write tx2 (by decide) A8 K8 c8 _ d5 o_ a2 hA;rw[py1]at a0;unfold tx2 at a0;have o0:=Sd.aq1 S2 Mw.jw (Mw.headB ((Mn.number nm.data.toList Mn.kMan).getD 0));have g7:R=if (S2.write Mw.jw (Mw.headB ((Mn.number nm.data.toList Mn.kMan).getD 0))).2≠0 then ((S2.write Mw.jw (Mw.headB ((Mn.number nm.data.toList Mn.kMan).getD 0))).1,M,(S2.write Mw.jw (Mw.headB ((Mn.number nm.data.toList Mn.kMan).getD 0))).2)
   else Gw.sd1 (S2.write Mw.jw (Mw.headB ((Mn.number nm.data.toList Mn.kMan).getD 0))).1 M nm.data.toList:=a9.out
  generalize S2.write Mw.jw (Mw.headB ((Mn.number nm.data.toList Mn.kMan).getD 0))=PP at *;obtain⟨S3,e3⟩:=PP;simp only at g7 o0;have b2:=H_ a0;have g9:=H_ g7;clear a0 g7 O a2 hA b6 hf d5 a9 k0 k1 h7 h6;go_wp2_with fail;refine b2.out.mono ?_;rintro e w9 ⟨rfl,X9,h9⟩
  by_cases q3:e3=0
  case neg=>
   have b3:=neq0 q3;have J:=g9.out;rw[if_pos q3]at J;have hl:=H_ (ix1.mk_ J h9);clear J;go_wp2;go_ret;exact hl.out
  subst q3;have k2:Hid (R=Gw.sd1 S3 M nm.data.toList):=g9.out.trans (if_neg s_);have k3:=h9.ax;have o1:=Sd.dj1 S3;have g':R=if (S3.ax).2≠0 then ((S3.ax).1,M,(S3.ax).2) else Gw.ren (S3.ax).1 M nm.data.toList:=k2.out
  generalize S3.ax=PP at *;obtain⟨S4,e4⟩:=PP;simp only at g' o1;have k4:=H_ k3;have i0:=H_ g';clear k3 g' k2 g9 b2 h8;go_wp2_with fail;refine k4.out.mono ?_;rintro e s8 ⟨rfl,s9,d7⟩
  by_cases q4:e4=0
  case neg=>
   have b3:=neq0 q4;have J:=i0.out;rw[if_pos q4]at J;have hl:=H_ (ix1.mk_ J d7);clear J;go_wp2;go_ret;exact hl.out
  subst q4;have k5:Hid (R=Gw.ren S4 M nm.data.toList):=i0.out.trans (if_neg s_);have d9:=d7.rename tx2 sCur (by decide) (by decide) o_;rw[py1,lk4]at d9;unfold tx2 sCur at d9;have o3:=Sd.jy2 S4 Mw.jw Mw.kCur;have i1:R=if (S4.rename Mw.jw Mw.kCur).2≠0 then ((S4.rename Mw.jw Mw.kCur).1,M,(S4.rename Mw.jw Mw.kCur).2) else Gw.fin (S4.rename Mw.jw Mw.kCur).1 M nm.data.toList:=k5.out
  generalize S4.rename Mw.jw Mw.kCur=PP at *;obtain⟨S5,e5⟩:=PP;simp only at i1 o3;have k6:=H_ d9;have i2:=H_ i1;clear d9 i1 k5 i0 k4 h9;go_wp2_with fail;refine k6.out.mono ?_;rintro e k7 ⟨rfl,t0,Q⟩
  by_cases q5:e5=0
  case neg=>
   have b3:=neq0 q5;have J:=i2.out;rw[if_pos q5]at J;have hl:=H_ (ix1.mk_ J Q);clear J;go_wp2;go_ret;exact hl.out
  subst q5;have k8:Hid (R=Gw.fin S5 M nm.data.toList):=i2.out.trans (if_neg s_);have f1:=Q.man.free 1;have f8:=Q.man.free 8;have d1:=Q.man.cell 1;have d8:=Q.man.cell 8;simp only[Gs.cells,gE0,gE1]at d1 d8;have f9:GK ((k7.setCell ⟨m,1,none⟩ (.string nm)).setCell ⟨m,8,none⟩ (.int .i64 1)) m X.d { M with name:=nm.data.toList,count:=1 } P:=by
   have b7:=(Q.man.store 1 (.string nm)).store 8 (.int .i64 1);unfold GK Gs.cells;simp only[dq1];exact b7
  have b7:=Q.turn (((Chg.refl [m] k7).setCell _ (.inl s_)).setCell _ (.inl s_)) f9 rfl;have f':=b7.ax;have o5:=Sd.dj1 S5;have i3:R=if (S5.ax).2≠0 then ((S5.ax).1,{ M with name:=nm.data.toList,count:=1,broken:=true },(S5.ax).2)
   else (Mw.sweep nm.data.toList (S5.ax).1.list (S5.ax).1,{ M with name:=nm.data.toList,count:=1 },0):=k8.out
  generalize S5.ax=PP at *;obtain⟨S6,e6⟩:=PP;simp only at i3 o5;have g0:=H_ f';have b8:=H_ i3;clear f' i3 k8 i2 k6 d7 f9;go_wp2_with fail;refine g0.out.mono ?_;rintro e t2 ⟨rfl,i4,U⟩
  by_cases q6:e6=0
  case neg=>
   have b3:=neq0 q6;have J:=b8.out;rw[if_pos q6]at J;have HH:=H_ J;clear J d1 d8 f1 f8 Q b7;go_wp2_with fail;refine U.nj5.mono ?_;rintro e k9 ⟨rfl,b9⟩;have hl:=H_ (ix1.mk_ HH.out b9);go_wp2;go_ret;exact hl.out
  subst q6;have g1:Hid (R=(Mw.sweep nm.data.toList S6.list S6,{ M with name:=nm.data.toList,count:=1 },0)):=b8.out.trans (if_neg s_);have i5:=U.acc.list;have b':=pk1 U.acc.dm.wf;have k':=wk1 U.acc.dm.wf;obtain⟨L,hL⟩:=n_ S6.list;rw[<-hL]at i5 b' k' g1;have o7:=H_ b';have l1:=H_ i5;clear hL b' i5 b8 g0 d1 d8 f1 f8 Q b7;go_wp2_with fail;refine l1.out.mono ?_;rintro e k9 ⟨o8,o9,rfl,H,g2⟩;have b9:=U.below g2;have q9:L.length<=o9:=by
   obtain⟨A',c',e,h1,_⟩:=gz H;injection e with _ e2 e3;omega
  have g4:∀a,o8=some a->a.block∉[m] ++i4.foot:=fun a ha hm=>by
   obtain⟨A',c',e,_,_,h6⟩:=gz H;injection e with e _ _;have e0:=(h6 a (by rw[<-e];exact ha)).1
   rcases k_.1 hm with i6|i6
   ·have:=U.man.lt
    rw[a_.1 i6]at e0;omega
   ·have:=U.acc.dm.dk.lt _ i6
    omega
  have a4:=Row.own H;have e0:=b9.anew;have HA:=H_ g4;clear H g2 l1 g4 U;go_wp2
  go_loopw [104] (fun i wr=>∃(j:Nat) (Sj:Sd) (Xj:Dw),j<=L.length/\i=.int .i64 (j:Int)/\Gst P m i4 k9 Sj { M with name:=nm.data.toList,count:=1 } wr Xj/\Hid (Mw.sweep nm.data.toList L S6=Mw.sweep nm.data.toList (L.drop j) Sj)/\Sj.load<=S6.load+j) (fun i _=>L.length - (intOf i).toNat)
  case atStart=>exact⟨0,S6,i4,w_ _,rfl,e0,rfl,y_ _⟩
  case round=>
   obtain⟨j,Sj,Xj,hj,rfl,a',l2,t5⟩:=hrel
   by_cases o':j < L.length
   ·have hrow:=Row.vx2 a4 a'.acc.c l_ HA.out
    obtain⟨a,l3,rfl,_,i7⟩:=hrow.enc o';have l4:=o7.out _ (u_ l3);have t6:=vk1 l4;have c9:L.drop j=L[j]::L.drop (j+1):=bn_ l3;have l5:Mw.sweep nm.data.toList L S6=Mw.sweep nm.data.toList (L.drop (j+1)) (if (Mn.number L[j] Mn.kMan).isSome&&!(L[j]==nm.data.toList) then (Sj.remove L[j]).1 else Sj):=by
     rw[show Mw.sweep nm.data.toList L S6=_ from l2.out,c9];rfl
    have E:=H_ l5;have C:=px1 (str L[j]) sMan (by rw[ny];omega) (by decide) wr a'.acc.dm.env;rw[oz,gk2,jq4]at C;unfold sMan at C;have a5:=fun w2 (hb:Below wr.heap.size wr w2)=>(a'.below hb).remove (str L[j]) (by rw[ny];unfold maxLen;omega) o_;have m7:=Sd.cx1 Sj L[j];rw[oz]at a5;have p0:=e0.acc.e;have l6:=b9.acc.e;rw[l6]at a5;have a8:=H_ a5;have e7:=H_ C;have l7:((str L[j]).toList==nm.toList)=(L[j]==nm.data.toList):=by
     rw[ByteArray.toList_eq,ByteArray.toList_eq,oz]
    have l8:=H_ l7;clear a5 C l5 c9 l4 hrow p0 l6 l7;generalize L[j]=s at *;go_wp2_with fail;refine e7.out.mono ?_;rintro e p1 ⟨rfl,d0⟩
    cases d2:Mn.number s Mn.kMan with
    |none=>
     rw[d2]at E;have d3:=a'.below d0;clear d2 e7 a8 i7;go_wp2;go_roundw
     case rel=>exact⟨j+1,Sj,Xj,o_,by go_num,d3,E,o_⟩
     case measure=>simp[intOf];omega
    |some v=>
     rw[d2]at E
     cases hq:(s==nm.data.toList) with
     |true=>
      have q1:((str s).toList==nm.toList)=true:=by rw[l8.out,hq]
      rw[hq]at E;have d3:=a'.below d0;clear d2 e7 a8 i7 hq;go_wp2;go_roundw
      case rel=>exact⟨j+1,Sj,Xj,o_,by go_num,d3,E,o_⟩
      case measure=>simp[intOf];omega
     |false=>
      have q1:((str s).toList==nm.toList)=false:=by rw[l8.out,hq]
      rw[hq]at E;have a1:=a8.out p1 d0;have g5:Mw.sweep nm.data.toList L S6=Mw.sweep nm.data.toList (L.drop (j+1)) (Sj.remove s).1:=E.out;generalize Sj.remove s=PP at *;have l9:=H_ g5;have l':=H_ a1;clear d2 e7 a8 i7 hq a1 g5 E;go_wp2_with fail;refine l'.out.mono ?_;rintro e t8 ⟨rfl,p2,d3⟩;go_wp2;go_roundw
      case rel=>exact⟨j+1,PP.1,p2,o_,by go_num,d3,l9,o_⟩
      case measure=>simp[intOf];omega
   ·have e1:L.drop j=[]:=aG_ o_
    have m0:R=(Sj,{ M with name:=nm.data.toList,count:=1 },0):=by
     have:=l2.out;rw[e1]at this;rw[show R=_ from g1.out,this];rfl
    have hl:=H_ (ix1.mk_ m0 (b9.trans a'));clear e1 m0 a4;go_wp2;go_ret;exact hl.out
theorem bq3 (C:Nat) (h:GK w m C M P):Calls prog 160 #[.pointer (some ⟨m,0,none⟩)] w fun e w'=>e=.returned (.bool M.broken)/\w=w':=by
 have c1:=h.cell 12;simp only[Gs.cells,gE0,gE1]at c1;go_enter func160,ntmps160;go_wp2;go_ret;exact⟨rfl,rfl⟩
theorem sx2 (xd:Nat) (h:GK w m xd M P) (hr:Row w.heap.size w P.a P.n 2 (dw M.v.files)) (hn:P.n<=10000):Calls prog 49 #[.pointer (some ⟨m,0,none⟩)] w fun e w'=>∃A c,e=.returned (M.v.val A P.n c)/\lq1 w.heap.size w' A P.n c M.v.files/\Below w.heap.size w w':=by
 have a':=h.lt;have h1:GK (w.alloc (.cells #[.int .i64 0,.slice none 0 0,.int .u64 0,.int .u64 0,.int .u64 0,.int .u64 0] 121)) m xd M P:=BoxO.alloc h _;have Q:=(hr.alloc l_ (.cells #[.int .i64 0,.slice none 0 0,.int .u64 0,.int .u64 0,.int .u64 0,.int .u64 0] 121)).up (B':=(w.alloc (.cells #[.int .i64 0,.slice none 0 0,.int .u64 0,.int .u64 0,.int .u64 0,.int .u64 0] 121)).heap.size) s_;have c2:=h1.cell 2;have c3:=h1.cell 3;have c4:=h1.cell 4;have c5:=h1.cell 5;have c6:=h1.cell 6;have c7:=h1.cell 7;have U:=BoxO.new w #[.int .i64 0,.slice none 0 0,.int .u64 0,.int .u64 0,.int .u64 0,.int .u64 0] 121;simp only[Gs.cells,gE0,gE1]at c2 c3 c4 c5 c6 c7;have Z:=sy4 M.v P.a P.n P.c _ o_ Q;have I:Below w.heap.size w (w.alloc (.cells #[.int .i64 0,.slice none 0 0,.int .u64 0,.int .u64 0,.int .u64 0,.int .u64 0] 121)):=b_ _ _;unfold Vw.val at *;generalize hV:w.alloc (.cells #[.int .i64 0,.slice none 0 0,.int .u64 0,.int .u64 0,.int .u64 0,.int .u64 0] 121)=V at *;go_enter func49,ntmps49;go_wp2_with fail;refine Z.mono ?_;rintro e w1 ⟨A1,c1,rfl,J,O⟩;have a0:=az I O;have C:=U.below O;have a9:=C.lt;have E:=J.base I.size;have f0:=C.free 0;have f1:=C.free 1;have f2:=C.free 2;have f3:=C.free 3;have f4:=C.free 4;have f5:=C.free 5;have g0:=C.c0;have g1:=C.c1;have g2:=C.c2;have g3:=C.c3;have g4:=C.c4;have g5:=C.c5;have a1:=(((((a0.setCell (p:=⟨w.heap.size,0,none⟩) l_ (.int .i64 M.v.log)).setCell (p:=⟨w.heap.size,1,none⟩) l_ (.slice A1 P.n c1)).setCell (p:=⟨w.heap.size,2,none⟩) l_ (.int .u64 (M.v.floor:Int))).setCell (p:=⟨w.heap.size,3,none⟩) l_ (.int .u64 (M.v.cert:Int))).setCell (p:=⟨w.heap.size,4,none⟩) l_ (.int .u64 (M.v.at_:Int))).setCell (p:=⟨w.heap.size,5,none⟩) l_ (.int .u64 (M.v.lease:Int));have a2:Chg [w.heap.size] w1 ((((((w1.setCell ⟨w.heap.size,0,none⟩ (.int .i64 M.v.log)).setCell ⟨w.heap.size,1,none⟩ (.slice A1 P.n c1)).setCell ⟨w.heap.size,2,none⟩ (.int .u64 (M.v.floor:Int))).setCell ⟨w.heap.size,3,none⟩ (.int .u64 (M.v.cert:Int))).setCell ⟨w.heap.size,4,none⟩ (.int .u64 (M.v.at_:Int))).setCell ⟨w.heap.size,5,none⟩ (.int .u64 (M.v.lease:Int))):=
  ((((((Chg.refl [w.heap.size] w1).setCell _ (.inl s_)).setCell _ (.inl s_)).setCell _ (.inl s_)).setCell _ (.inl s_)).setCell _ (.inl s_)).setCell _ (.inl s_)
 have a5:V.heap.size=w.heap.size+1:=by rw[<-hV];simp
 have H:=E.chg a2 (fun a ha hm=>by have:=J.low a ha;simp at hm;omega);have HS:=H_ a1;have HF:=H_ H;clear a1 C U O a0 I Z h1 c2 c3 c4 c5 c6 c7 a2 J E H Q hr hV a5;go_wp2;exact bodyPost_ret (v:=.agg #[.int .i64 M.v.log,.slice A1 P.n c1,.int .u64 (M.v.floor:Int),.int .u64 (M.v.cert:Int),.int .u64 (M.v.at_:Int),.int .u64 (M.v.lease:Int)]) (by simp[results,results49,go_sem,g0,g1,g2,g3,g4,g5]) rfl ⟨A1,c1,rfl,HF.out,HS.out⟩
structure bj6 (P:Sl) (X:Dw) (w:World) (S:Sd) (M:Gs) (m:Nat) (w':World) (X':Dw):Prop where
 e:X'.d=X.d
 dm:Dm w' X' S
 man:GK w' m X.d M P
 row:Vrow w' X' m P M.v.files
 away:m∉X'.foot
 c:Chg X.foot w w'
 f:∀g∈X'.foot,g∈X.foot\/w.heap.size<=g
 new:w.heap.size<=m
theorem mz5 (E:Below w.heap.size w w1) (H:w.heap.size<=m) (k:Gst P m X w1 S1 M1 w2 X1):bj6 P X w S1 M1 m w2 X1:=
 ⟨k.acc.e,k.acc.dm,k.man,k.row,k.away,((Chg.of_below E X.foot).trans k.acc.c (fun g C=>by
  rcases k_.1 C with h1|h1
  ·rw[a_.1 h1];exact .inr H
  ·exact .inl h1)),fun g C=>by
  rcases k.acc.f g C with h1|h1
  ·exact .inl h1
  ·exact .inr (j_ E.size h1),H⟩
theorem gz5 (v:Vw) (A:Option Addr) (n c:Nat) (hv:v.ok=true) (hn:n<=10000) (b5:n<=c) (b6:c<=maxLen) (hr:Row w.heap.size w A n 2 (dw v.files)) (b7:S.load<=1000000000000) (h:Dm w X S) (R:Sd×Gs×Nat) (hR:R=Gw.rewrite S ⟨[],v,0,false⟩ (Mn.name Mn.kMan 1)) (a4:R.2.2=0):
  Calls prog 112 #[.pointer (some ⟨X.d,0,none⟩),v.val A n c] w fun e w'=>∃P m X',e=.returned (.tuple #[.pointer (some ⟨m,0,none⟩),.int .i64 0])/\bj6 P X w R.1 R.2.1 m w' X':=by
 have HR:=H_ hR;have b8:=H_ a4;clear hR a4;have U:Below w.heap.size w (w.alloc (.cells #[.int .i64 v.log,.slice A n c,.int .u64 (v.floor:Int),.int .u64 (v.cert:Int),.int .u64 (v.at_:Int),.int .u64 (v.lease:Int)] 121)):=b_ _ _;have E:=BoxO.new w #[.int .i64 v.log,.slice A n c,.int .u64 (v.floor:Int),.int .u64 (v.cert:Int),.int .u64 (v.at_:Int),.int .u64 (v.lease:Int)] 121;generalize hV:w.alloc (.cells #[.int .i64 v.log,.slice A n c,.int .u64 (v.floor:Int),.int .u64 (v.cert:Int),.int .u64 (v.at_:Int),.int .u64 (v.lease:Int)] 121)=V at *;have a1:=(hr.below U).up U.size;have Z:=ow5 v A n c V o_ b5 b6 a1;rw[hv]at Z;have I:=fun W hW=>sy4 v A n c W o_ hW;have x0:=E.c0;have x1:=E.c1;have x2:=E.c2;have x3:=E.c3;have x4:=E.c4;have x5:=E.c5;unfold Vw.val at Z I ⊢;have a5:=H_ I;clear I;go_enter func112,ntmps112;go_wp2_with fail;refine Z.mono ?_;rintro e w1 ⟨rfl,O⟩;have C:=E.below O;have x0:=C.c0;have x1:=C.c1;have x2:=C.c2;have x3:=C.c3;have x4:=C.c4;have x5:=C.c5;have Q:=az U O;have I:=a5.out w1 ((a1.below O).up O.size);clear Z O E U a5 a1 hr;go_wp2_with fail;refine I.mono ?_;rintro e w2 ⟨A2,c2,rfl,J,a6⟩;have H:=az Q a6;have a7:=H.alloc H.size (.cells #[.pointer (some ⟨X.d,0,none⟩),.string ⟨#[]⟩,.int .i64 v.log,.slice A2 n c2,.int .u64 (v.floor:Int),.int .u64 (v.cert:Int),.int .u64 (v.at_:Int),.int .u64 (v.lease:Int),.int .i64 0,.int .u32 0,.int .i32 0,.int .u32 0,.bool false] 191);have a8:GK (w2.alloc (.cells #[.pointer (some ⟨X.d,0,none⟩),.string ⟨#[]⟩,.int .i64 v.log,.slice A2 n c2,.int .u64 (v.floor:Int),.int .u64 (v.cert:Int),.int .u64 (v.at_:Int),.int .u64 (v.lease:Int),.int .i64 0,.int .u32 0,.int .i32 0,.int .u32 0,.bool false] 191)) w2.heap.size X.d ⟨[],v,0,false⟩ ⟨A2,n,c2⟩:=BoxO.new w2 #[.pointer (some ⟨X.d,0,none⟩),.string ⟨#[]⟩,.int .i64 v.log,.slice A2 n c2,.int .u64 (v.floor:Int),.int .u64 (v.cert:Int),.int .u64 (v.at_:Int),.int .u64 (v.lease:Int),.int .i64 0,.int .u32 0,.int .i32 0,.int .u32 0,.bool false] 191;have a9:=H.size;have h3:=h.below a7;have b0:Vrow (w2.alloc (.cells #[.pointer (some ⟨X.d,0,none⟩),.string ⟨#[]⟩,.int .i64 v.log,.slice A2 n c2,.int .u64 (v.floor:Int),.int .u64 (v.cert:Int),.int .u64 (v.at_:Int),.int .u64 (v.lease:Int),.int .i64 0,.int .u32 0,.int .i32 0,.int .u32 0,.bool false] 191)) X w2.heap.size ⟨A2,n,c2⟩ v.files:=by
  refine⟨(J.row.alloc l_ _).up s_,J.nc,J.cm,hn,fun j hj a ha=>⟨?_,fun hm=>?_⟩⟩
  ·obtain⟨a',e,hb,_⟩:=J.row.cell j hj
   simp only at ha;rw[ha]at e;injection e with e;subst e;omega
  ·have h4:=J.low a ha
   have h5:=h.dk.lt _ hm;have:=Q.size;omega
 generalize c9:w2.alloc (.cells #[.pointer (some ⟨X.d,0,none⟩),.string ⟨#[]⟩,.int .i64 v.log,.slice A2 n c2,.int .u64 (v.floor:Int),.int .u64 (v.cert:Int),.int .u64 (v.at_:Int),.int .u64 (v.lease:Int),.int .i64 0,.int .u32 0,.int .i32 0,.int .u32 0,.bool false] 191)=V3 at *;have a0:=name_any sMan (by decide) 1 o_ V3 h3.env;rw[gk2]at a0;unfold sMan at a0;have b1:Gst ⟨A2,n,c2⟩ w2.heap.size X V3 S ⟨[],v,0,false⟩ V3 X:=Gst.start h3 a8 b0 (fun hm=>by have:=h.dk.lt _ hm;omega) (j_ h.env.base a9);clear I a6 H Q a8 C x0 x1 x2 x3 x4 x5 b0 J;go_wp2_with fail;clear c9;generalize w2.heap.size=m at *;refine a0.mono ?_;rintro e w4 ⟨rfl,b2⟩;have h4:=b1.below b2;have d0:=vv5 1;have a2:=ix3 (str (Mn.name Mn.kMan 1)) (by rw[ny];exact d0) hv b7 h4.anew;rw[oz,<-show R=_ from HR.out]at a2;have b3:=H_ a2;clear a2 a0 b2;go_wp2_with fail;refine b3.out.mono ?_;rintro e w5 ⟨rfl,P5,X5,h5,_⟩;rw[show R.2.2=_ from b8.out];have HB:=H_ (mz5 a7 a9 (h4.trans h5));clear h5 h4 b1 h3 b3;go_wp2;go_ret2;exact⟨_,_,_,rfl,HB.out⟩
end
section
variable {B n:Nat} {w w':World} {A:Option Addr}
def vz (F:List Nat) (w:World) (p:World->Prop):Prop:=∀w',Chg F w w'->p w'
theorem vz.now {F:List Nat} {p:World->Prop} (h:vz F w p):p w:=h w (Chg.refl F w)
theorem vz.step {F G:List Nat} {p:World->Prop} (h:vz F w p) (c:Chg F w w') (C:∀g∈G,g∈F\/w.heap.size<=g):vz G w' p:=fun _ k=>h _ (c.trans k C)
theorem vz.below {F:List Nat} {p:World->Prop} (h:vz F w p) (c:Below w.heap.size w w'):vz F w' p:=h.step (Chg.of_below c F) fun _ h=>.inl h
theorem vz.and {F:List Nat} {p q:World->Prop} (h:vz F w p) (k:vz F w q):vz F w fun w=>p w/\q w:=fun w' c=>⟨h w' c,k w' c⟩
theorem vz.mono {F:List Nat} {p q:World->Prop} (h:vz F w p) (k:∀w,p w->q w):vz F w q:=fun w' c=>k w' (h w' c)
end
end Go.Proofs.YtkdbagdiplpcfaaGreatDoor
